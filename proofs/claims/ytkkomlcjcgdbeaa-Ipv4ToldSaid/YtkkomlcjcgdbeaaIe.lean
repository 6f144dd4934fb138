/- The law IcmpDecodes of the package pitotlaw07 holds for every input: which echo bytes are, or why they are none. No condition. -/
import Derived.Test.YtkkomlcjcgdbeaaId
import Derived.Test.YtkkomlcjcgdbeaaH
namespace Go.Proofs.Ytkkomlcjcgdbeaa
open Go.SLA
set_option maxRecDepth 100000
set_option linter.unusedVariables false
set_option linter.unusedSimpArgs false
attribute [local irreducible] J L K QL Rg FSpec OpV OpX Rd Back

theorem Decode_lit (s : ByteArray) : FSpec Try.prog 18 #[.string s] emp (fun _ : Unit => True) (fun _ => .tuple #[.agg [.bool (decI s).1.rep, .int .i64 (decI s).1.id, .int .i64 (decI s).1.seq, .string (decI s).1.text].toArray, .int .i64 (decI s).2]) (fun _ => emp) := Decode_spec s
theorem RDecode_lit (s : ByteArray) (hs : s.size ≤ 1000) : FSpec Try.prog 19 #[.string s] emp (fun _ : Unit => True) (fun _ => .tuple #[.agg [.bool (decI s).1.rep, .int .i64 (decI s).1.id, .int .i64 (decI s).1.seq, .string (decI s).1.text].toArray, .int .i64 (decI s).2]) (fun _ => emp) := RDecode_spec s hs
theorem plain_lit (x : Ec) : FSpec Try.prog 17 #[.agg [.bool x.rep, .int .i64 x.id, .int .i64 x.seq, .string x.text].toArray] emp (fun _ : Unit => True) (fun _ => .agg [.bool x.rep, .int .i64 x.id, .int .i64 x.seq, .string x.text].toArray) (fun _ => emp) := plain_spec x
attribute [local irreducible] be ones echoT echo word decI

theorem ID_big (W : World) (s : ByteArray) (h : 1000 < s.size) : FSpec Try.prog 4 #[.string s] (old W) (fun _ : Unit => True) (fun _ => .bool true) (fun _ => old W) := by
  refine FSpec.enter' Try.func4 rfl Try.ntmps4 rfl fun σ F => ?_
  refine J_seq ?_
  refine J_region ?_
  refine L_v (opv_assign rfl) rfl ?_
  refine L_nil ?_
  refine K_then ?_
  refine J_seq ?_
  refine J_seq ?_
  refine J_region ?_
  refine L_v (opv_move rfl) rfl ?_
  first
    | refine L_v (opv_lenL rfl) rfl ?_
    | refine L_v (opv_lenS rfl) rfl ?_
  refine L_v ((opv_gtr rfl rfl).bool_t (by omega)) rfl ?_
  refine L_nil ?_
  refine K_then ?_
  refine J_cond_true rfl ?_
  refine J_seq ?_
  refine J_region ?_
  refine L_x rfl (opx_call0 (iawake_spec) rfl rfl rfl) (fun _ _ => ?_)
  refine L_emp ?_
  refine L_v (opv_assign rfl) rfl ?_
  refine L_nil ?_
  refine K_then ?_
  refine J_ret ?_
  refine K_then_ret ?_
  exact K_ret1 rfl rfl () trivial (rfl) Ent.take

theorem ID_ok (W : World) (s : ByteArray) (h : s.size ≤ 1000) : FSpec Try.prog 4 #[.string s] (old W) (fun _ : Unit => True) (fun _ => .bool true) (fun _ => old W) := by
  refine FSpec.enter' Try.func4 rfl Try.ntmps4 rfl fun σ F => ?_
  refine J_seq ?_
  refine J_region ?_
  refine L_v (opv_assign rfl) rfl ?_
  refine L_nil ?_
  refine K_then ?_
  refine J_seq ?_
  refine J_seq ?_
  refine J_region ?_
  refine L_v (opv_move rfl) rfl ?_
  first
    | refine L_v (opv_lenL rfl) rfl ?_
    | refine L_v (opv_lenS rfl) rfl ?_
  refine L_v ((opv_gtr rfl rfl).bool_f (by omega)) rfl ?_
  refine L_nil ?_
  refine K_then ?_
  refine J_cond_false rfl ?_
  refine J_skip ?_
  refine K_then ?_
  refine J_seq ?_
  refine J_region ?_
  refine L_v (opv_move rfl) rfl ?_
  refine L_x rfl (opx_call0 (Decode_lit s) rfl rfl rfl) (fun _ _ => ?_)
  refine L_emp ?_
  refine L_v (opv_move rfl) rfl ?_
  refine L_v (opv_extract (v := .agg [.bool (decI s).1.rep, .int .i64 (decI s).1.id, .int .i64 (decI s).1.seq, .string (decI s).1.text].toArray) rfl rfl) rfl ?_
  refine L_v (opv_extract rfl rfl) rfl ?_
  refine L_x rfl (opx_alloc rfl) (fun b3 _ => ?_)
  refine L_x rfl (opx_store rfl rfl rfl (by simp [Value.oneCell'])) (fun _ _ => ?_)
  refine L_v (opv_assign rfl) rfl ?_
  refine L_nil ?_
  refine K_then ?_
  refine J_seq ?_
  refine J_region ?_
  refine L_v (opv_move rfl) rfl ?_
  refine L_x rfl (opx_call0 (RDecode_lit s h) rfl rfl rfl) (fun _ _ => ?_)
  refine L_emp ?_
  refine L_v (opv_move rfl) rfl ?_
  refine L_v (opv_extract (v := .agg [.bool (decI s).1.rep, .int .i64 (decI s).1.id, .int .i64 (decI s).1.seq, .string (decI s).1.text].toArray) rfl rfl) rfl ?_
  refine L_v (opv_extract rfl rfl) rfl ?_
  refine L_x rfl (opx_alloc rfl) (fun b5 _ => ?_)
  refine L_x rfl (opx_store rfl rfl rfl (by simp [Value.oneCell'])) (fun _ _ => ?_)
  refine L_v (opv_assign rfl) rfl ?_
  refine L_nil ?_
  refine K_then ?_
  refine J_seq ?_
  refine J_quiet Try.mixed (by kernel_rfl) ?_
  refine Q_v (opv_loadS rfl) rfl ?_
  refine Q_call (plain_lit (decI s).1) rfl rfl (fun _ _ => rfl) (fun _ _ => Ent.refl _) rfl ?_
  refine Q_v (opv_loadS rfl) rfl ?_
  refine Q_v ((opv_eqlF rfl rfl (by simp [Shape, CK.sh]) (by simp [Shape, CK.sh])).bool_t rfl) rfl ?_
  refine Q_v (opv_move rfl) rfl ?_
  refine Q_gon rfl rfl rfl ?_
  refine Q_v (opv_move rfl) rfl ?_
  refine Q_gon rfl rfl rfl ?_
  refine Q_v (opv_move rfl) rfl ?_
  refine Q_gon rfl rfl rfl ?_
  refine Q_v ((opv_eql rfl rfl).bool_t rfl) rfl ?_
  first
    | refine Q_v (opv_pick_tt rfl rfl) rfl ?_
    | refine Q_v (opv_pick_ff rfl rfl) rfl ?_
    | refine Q_v (opv_pick rfl rfl rfl) rfl ?_
  refine Q_v (opv_move rfl) rfl ?_
  refine Q_gon rfl rfl rfl ?_
  refine Q_call (iawake_spec) rfl rfl (fun _ _ => rfl) (fun _ _ => Ent.refl _) rfl ?_
  first
    | refine Q_v (opv_pick_tt rfl rfl) rfl ?_
    | refine Q_v (opv_pick_ff rfl rfl) rfl ?_
    | refine Q_v (opv_pick rfl rfl rfl) rfl ?_
  refine Q_v (opv_assign rfl) rfl ?_
  refine QL_nil ?_
  refine K_then ?_
  refine J_ret ?_
  exact K_ret1 rfl rfl () trivial (rfl) Ent.take

theorem IcmpDecodes_law (W : World) (s : ByteArray) : FSpec Try.prog 4 #[.string s] (old W) (fun _ : Unit => True) (fun _ => .bool true) (fun _ => old W) := by
  by_cases h : 1000 < s.size
  · exact ID_big W s h
  · exact ID_ok W s (by omega)

end Go.Proofs.Ytkkomlcjcgdbeaa
namespace Go.Proofs.Ytkkomlcjcgdbeaa.icmpDecodes
open Go.ChangeShapes Go.WideShapes Go.ChangeAt Go.RowKit Go.SLA
open Go.ChangeMaps (open_string shut_string)
set_option linter.unusedVariables false
theorem own : ownKnob Try.prog.godebug = none := by kernel_rfl
theorem laidOut : laidOutB Try.prog = true := by kernel_rfl
set_option maxRecDepth 100000 in
theorem lifted (os : Os) (started : os.Started) (H : Type) (enc : TypeId × Value → H) :
    ReturnsInHanded {} Try.checked os 4 .any (Rows.icmpDecodesSpec.pre6 enc Try.prog Try.f4 Rows.icmpDecodesRow.domain false) (Rows.icmpDecodesSpec.post enc Try.prog Try.f4 false true false false) := by
  refine returnsInHanded_of_change_sized (C := Try.checked) own started (by kernel_rfl) Try.func4
    (ChangeSpec.witness6 (enc := enc) (C := Try.checked) false ⟨#[], #[.string ByteArray.empty], []⟩ 8 (by kernel_rfl) (by kernel_rfl) (by kernel_rfl) (by kernel_rfl)) ?_
  intro W base args ds gs before hval0 hW hcnd hsz0 _
  have hsz : (DataW.weightsEach Try.prog (Try.f4.params.toList ++ Rows.icmpDecodesSpec.plain.varTypes Try.prog) (ds ++ gs)).all (· ≤ reachBytes) = true := hsz0
  have hval : ∀ (j : Nat) t v, Try.f4.params[j]? = some t → args[j]? = some v → Value.okWide Try.prog W .any base t v := hval0
  have hW' := hW
  obtain ⟨p, q, hA0, hV, rfl, hfz, hnd⟩ := hW
  have hA : DataW.TrodAll enc Try.prog W 0 (fun _ => true) true Try.f4.params.toList args.toList ds p := hA0
  rw [Try.params4] at hA hval hsz
  obtain ⟨v0, vs0, d0, ds0, p0, q0, hargs, rfl, rfl, h0, r0⟩ := trodAll_cons hA
  obtain ⟨rfl, rfl, rfl⟩ := trodAll_nil r0
  obtain rfl : args = #[v0] := by cases args; simp_all
  obtain ⟨rfl, rfl⟩ := trodVars_none hV
  have k0 := h0
  have lt0 : ∀ x ∈ p0, x.block < W.heap.size := by obtain ⟨m, hm⟩ := k0; exact DataW.trod_lt m _ _ _ hm
  obtain ⟨a0, rfl, rfl, rfl, y0⟩ := open_string Try.underlying9 (hval 0 9 v0 rfl rfl) h0
  have z0 := sized_string hsz (j := 0) (t := 9) rfl rfl
  rw [Array.length_toList] at z0
  clear hA0 hval0 hsz0 hsz
  refine (FSpec.law (IcmpDecodes_law W a0)).mono fun e W' ⟨he, bel⟩ => ?_
  subst he
  exact ⟨_, rfl, _, _, _, [], _, [], hW', trodAll_mk1 (shut_bool Try.underlying4 _), (trodAll_cons_mk (Below.trod laidOut (by kernel_rfl) (of_decide_eq_true (by kernel_rfl)) k0 bel lt0) trodAll_mk0), rfl, bel.frame _, fun h => by cases h⟩
theorem over : Rows.icmpDecodesRow.holds Try.pinned (OpenSpec.ofChange Rows.icmpDecodesSpec) :=
  OpenClaim.holds_of_wide 4 Try.f4 rfl rfl rfl rfl rfl rfl rfl ⟨rfl, rfl, rfl, rfl, rfl⟩ rfl rfl rfl rfl rfl (by kernel_rfl) Try.func4 (by kernel_rfl)
    (of_decide_eq_true (by kernel_rfl)) (by unfold Func.isWrapper; first | (rw [if_pos (by decide +kernel)]; kernel_rfl) | (rw [if_neg (by decide +kernel)]; exact ⟨rfl, rfl⟩))
    (fun os started H enc _ => lifted os started H enc)
end Go.Proofs.Ytkkomlcjcgdbeaa.icmpDecodes
namespace Go.Proofs.Ytkkomlcjcgdbeaa
theorem icmpDecodes_holds : Rows.IcmpDecodesSaid := icmpDecodes.over
#print axioms icmpDecodes_holds
end Go.Proofs.Ytkkomlcjcgdbeaa
namespace Go.Proofs.Ytkkomlcjcgdbeaa
open Go.SLA
end Go.Proofs.Ytkkomlcjcgdbeaa
