/- The law BitsSums of the package pitotlaw01 holds for every input: the sum of 16 bits of bytes is what the reference says. No condition. -/
import Derived.Test.YtdmlcnecildliaaBh
import Derived.Test.YtdmlcnecildliaaRows
import Derived.Test.YtdmlcnecildliaaH
namespace Go.Proofs.Ytdmlcnecildliaa
open Go.SLA
set_option maxRecDepth 100000
set_option linter.unusedVariables false
set_option linter.unusedSimpArgs false
attribute [local irreducible] J L K QL Rg FSpec OpV OpX Rd Back

theorem aw1 : putS (bytesL []) false 258 2 = (bytesL [1, 2], false) := by
  unfold putS
  rw [if_neg (by decide), if_pos (by decide)]
  rfl
theorem aw2 : bitsS (bytesL [1, 2]) false [4, 4] [4, 5] = (bytesL [1, 2, 69], false) := by
  unfold bitsS
  rw [if_neg (by decide), if_neg (by decide), show pack 0 [4, 4] [4, 5] = some 69 from by decide]
  show putS (bytesL [1, 2]) false 69 1 = _
  unfold putS
  rw [if_neg (by decide), if_pos (by decide)]
  rfl
theorem aw3 : ((ones (bytesL [69, 0]) : Nat) : Int) = 47871 := by
  unfold ones
  rw [show wsum (bytesL [69, 0]) (bytesL [69, 0]).size = 17664 from by decide, fold_a (by decide)]
  rfl
theorem aw_u16 (p : Nat) : FSpec Try.prog 41 #[.pointer (some (ad p 0)), .int .i64 258] (WrP p (bytesL []) false) (fun _ : Unit => True) (fun _ => .tuple #[]) (fun _ => WrP p (bytesL [1, 2]) false) := by
  have := U16_spec p (bytesL []) false 258 (by decide) (by decide)
  rwa [aw1] at this
theorem aw_bits (p b b' : Nat) : FSpec Try.prog 44 #[.pointer (some (ad p 0)), .slice (some (ad b 0)) 2 2, .slice (some (ad b' 0)) 2 2] (sep (WrP p (bytesL [1, 2]) false) ((sep (cel b' [.int .i64 4, .int .i64 5] 3) (cel b [.int .i64 4, .int .i64 4] 3)))) (fun _ : Unit => True) (fun _ => .tuple #[]) (fun _ => (sep (WrP p (bytesL [1, 2, 69]) false) ((sep (cel b' [.int .i64 4, .int .i64 5] 3) (cel b [.int .i64 4, .int .i64 4] 3))))) := by
  have := Bits_go p (bytesL [1, 2]) (sep (cel b' [.int .i64 4, .int .i64 5] 3) (cel b [.int .i64 4, .int .i64 4] 3)) (some (ad b 0)) (some (ad b' 0)) 2 2 [4, 4] [4, 5]
    (RdS.lit (b := b) (cells := [.int .i64 4, .int .i64 4]) rfl encZ_len)
    (RdS.lit (b := b') (cells := [.int .i64 4, .int .i64 5]) rfl encZ_len) (by decide) (by decide) (by decide) (by decide) (by decide) (by decide)
  rw [aw2] at this
  exact this

theorem awake_spec  : FSpec Try.prog 17 #[] (emp) (fun _ : Unit => True) (fun _ => .bool true) (fun _ => emp) := by
  refine FSpec.enter' Try.func17 rfl Try.ntmps17 rfl fun σ F => ?_
  refine J_emp ?_
  refine J_seq ?_
  refine J_region ?_
  refine L_v (opv_assign rfl) rfl ?_
  refine L_nil ?_
  refine K_then ?_
  refine J_seq ?_
  refine J_region ?_
  refine L_v (opv_build rfl) rfl ?_
  refine L_x rfl (opx_box rfl rfl) (fun p _ => ?_)
  refine L_v (opv_assign rfl) rfl ?_
  refine L_nil ?_
  refine K_then ?_
  refine J_seq ?_
  refine J_imp (sep (WrP p (bytesL []) false) (F)) WrP_new ?_
  refine J_region ?_
  refine L_v (opv_move rfl) rfl ?_
  refine L_x rfl (opx_call0 (aw_u16 p) rfl rfl rfl) (fun _ _ => ?_)
  refine L_nil ?_
  refine K_then ?_
  refine J_seq ?_
  refine J_region ?_
  refine L_v (opv_move rfl) rfl ?_
  refine L_x rfl (opx_buildSliceL rfl rfl rfl (by omega) (by simp [Value.cells]) rfl) (fun b9 _ => ?_)
  refine L_x rfl (opx_buildSliceL rfl rfl rfl (by omega) (by simp [Value.cells]) rfl) (fun b10 _ => ?_)
  refine L_x rfl (opx_call0 (aw_bits p b9 b10) rfl rfl rfl) (fun _ _ => ?_)
  refine L_nil ?_
  refine K_then ?_
  refine J_seq ?_
  refine J_region ?_
  refine L_v (opv_move rfl) rfl ?_
  refine L_x rfl (opx_call0 (Bytes_ok p (bytesL [1, 2, 69])) rfl rfl rfl) (fun _ _ => ?_)
  refine L_v (opv_move rfl) rfl ?_
  refine L_v (opv_extract rfl rfl) rfl ?_
  refine L_v (opv_extract rfl rfl) rfl ?_
  refine L_v (opv_assign rfl) rfl ?_
  refine L_v (opv_assign rfl) rfl ?_
  refine L_nil ?_
  refine K_then ?_
  refine J_seq ?_
  refine J_region ?_
  refine L_v (opv_move rfl) rfl ?_
  refine L_v ((opv_eqlS rfl rfl).bool_t rfl) rfl ?_
  refine L_v (opv_move rfl) rfl ?_
  refine L_gon rfl rfl rfl ?_
  refine L_v (opv_move rfl) rfl ?_
  refine L_gon rfl rfl rfl ?_
  refine L_v ((opv_eql rfl rfl).bool_t rfl) rfl ?_
  first
    | refine L_v (opv_pick_tt rfl rfl) rfl ?_
    | refine L_v (opv_pick_ff rfl rfl) rfl ?_
    | refine L_v (opv_pick rfl rfl rfl) rfl ?_
  refine L_v (opv_move rfl) rfl ?_
  refine L_gon rfl rfl rfl ?_
  refine L_x rfl (opx_call0 (Ones_spec (bytesL [69, 0]) (by decide)) rfl rfl rfl) (fun _ _ => ?_)
  refine L_emp ?_
  refine L_gon rfl rfl rfl ?_
  refine L_v ((opv_eql rfl rfl).bool_t aw3) rfl ?_
  first
    | refine L_v (opv_pick_tt rfl rfl) rfl ?_
    | refine L_v (opv_pick_ff rfl rfl) rfl ?_
    | refine L_v (opv_pick rfl rfl rfl) rfl ?_
  refine L_v (opv_assign rfl) rfl ?_
  refine L_nil ?_
  refine K_then ?_
  refine J_ret ?_
  exact K_ret1 rfl rfl () trivial (rfl) Ent.take

theorem BitsSums_law (W : World) (s : ByteArray) : FSpec Try.prog 3 #[.string s] (old W) (fun _ : Unit => True) (fun _ => .bool true) (fun _ => old W) := by
  refine FSpec.enter' Try.func3 rfl Try.ntmps3 rfl fun σ F => ?_
  refine J_seq ?_
  refine J_region ?_
  refine L_v (opv_assign rfl) rfl ?_
  refine L_nil ?_
  refine K_then ?_
  refine J_seq ?_
  refine J_region ?_
  refine L_v (opv_move rfl) rfl ?_
  first
    | refine L_v (opv_lenL rfl) rfl ?_
    | refine L_v (opv_lenS rfl) rfl ?_
  refine L_v (opv_gtr rfl rfl) rfl ?_
  refine L_v (opv_move rfl) rfl ?_
  refine L_gf rfl rfl (fun h1 => ?_) (fun h1 => ?_) (fun _ h => by cases h; rfl)
  · refine L_v (opv_move rfl) rfl ?_
    refine L_gf_on h1 rfl rfl ?_
    refine L_x rfl (opx_call0 (Ones_spec s (by omega)) rfl rfl rfl) (fun _ _ => ?_)
    refine L_emp ?_
    refine L_gf_on h1 rfl rfl ?_
    refine L_v (opv_move rfl) rfl ?_
    refine L_gf_on h1 rfl rfl ?_
    refine L_x rfl (opx_call0 (ROnes_spec s (by omega)) rfl rfl rfl) (fun _ _ => ?_)
    refine L_emp ?_
    refine L_gf_on h1 rfl rfl ?_
    refine L_v ((opv_eql rfl rfl).bool_t rfl) rfl ?_
    refine L_v (opv_pick_f rfl h1 rfl) rfl ?_
    refine L_v (opv_move rfl) rfl ?_
    refine L_gon rfl rfl rfl ?_
    refine L_x rfl (opx_call0 (awake_spec) rfl rfl rfl) (fun _ _ => ?_)
    refine L_emp ?_
    first
      | refine L_v (opv_pick_tt rfl rfl) rfl ?_
      | refine L_v (opv_pick_ff rfl rfl) rfl ?_
      | refine L_v (opv_pick rfl rfl rfl) rfl ?_
    refine L_v (opv_assign rfl) rfl ?_
    refine L_nil ?_
    refine K_then ?_
    refine J_ret ?_
    exact K_ret1 rfl rfl () trivial (rfl) (Ent.refl _)
  · refine L_gf_off h1 rfl rfl ?_ (fun _ h => by cases h; rfl)
    refine L_gf_off h1 rfl rfl ?_ (fun _ h => by cases h; rfl)
    refine L_gf_off h1 rfl rfl ?_ (fun _ h => by cases h; rfl)
    refine L_gf_off h1 rfl rfl ?_ (fun _ h => by cases h; rfl)
    refine L_v (opv_pick_t rfl h1 rfl) rfl ?_
    refine L_v (opv_move rfl) rfl ?_
    refine L_gon rfl rfl rfl ?_
    refine L_x rfl (opx_call0 (awake_spec) rfl rfl rfl) (fun _ _ => ?_)
    refine L_emp ?_
    first
      | refine L_v (opv_pick_tt rfl rfl) rfl ?_
      | refine L_v (opv_pick_ff rfl rfl) rfl ?_
      | refine L_v (opv_pick rfl rfl rfl) rfl ?_
    refine L_v (opv_assign rfl) rfl ?_
    refine L_nil ?_
    refine K_then ?_
    refine J_ret ?_
    exact K_ret1 rfl rfl () trivial (rfl) (Ent.refl _)

end Go.Proofs.Ytdmlcnecildliaa
namespace Go.Proofs.Ytdmlcnecildliaa.bitsSums
open Go.ChangeShapes Go.WideShapes Go.ChangeAt Go.RowKit Go.SLA
open Go.ChangeMaps (open_string shut_string)
set_option linter.unusedVariables false
theorem own : ownKnob Try.prog.godebug = none := by kernel_rfl
theorem laidOut : laidOutB Try.prog = true := by kernel_rfl
set_option maxRecDepth 100000 in
theorem lifted (os : Os) (started : os.Started) (H : Type) (enc : TypeId × Value → H) :
    ReturnsInHanded {} Try.checked os 3 .any (Rows.bitsSumsSpec.pre6 enc Try.prog Try.f3 Rows.bitsSumsRow.domain false) (Rows.bitsSumsSpec.post enc Try.prog Try.f3 false true false false) := by
  refine returnsInHanded_of_change_sized (C := Try.checked) own started (by kernel_rfl) Try.func3
    (ChangeSpec.witness6 (enc := enc) (C := Try.checked) false ⟨#[], #[.string ByteArray.empty], []⟩ 8 (by kernel_rfl) (by kernel_rfl) (by kernel_rfl) (by kernel_rfl)) ?_
  intro W base args ds gs before hval0 hW hcnd hsz0 _
  have hsz : (DataW.weightsEach Try.prog (Try.f3.params.toList ++ Rows.bitsSumsSpec.plain.varTypes Try.prog) (ds ++ gs)).all (· ≤ reachBytes) = true := hsz0
  have hval : ∀ (j : Nat) t v, Try.f3.params[j]? = some t → args[j]? = some v → Value.okWide Try.prog W .any base t v := hval0
  have hW' := hW
  obtain ⟨p, q, hA0, hV, rfl, hfz, hnd⟩ := hW
  have hA : DataW.TrodAll enc Try.prog W 0 (fun _ => true) true Try.f3.params.toList args.toList ds p := hA0
  rw [Try.params3] at hA hval hsz
  obtain ⟨v0, vs0, d0, ds0, p0, q0, hargs, rfl, rfl, h0, r0⟩ := trodAll_cons hA
  obtain ⟨rfl, rfl, rfl⟩ := trodAll_nil r0
  obtain rfl : args = #[v0] := by cases args; simp_all
  obtain ⟨rfl, rfl⟩ := trodVars_none hV
  have k0 := h0
  have lt0 : ∀ x ∈ p0, x.block < W.heap.size := by obtain ⟨m, hm⟩ := k0; exact DataW.trod_lt m _ _ _ hm
  obtain ⟨a0, rfl, rfl, rfl, y0⟩ := open_string Try.underlying9 (hval 0 9 v0 rfl rfl) h0
  have z0 := sized_string hsz (j := 0) (t := 9) rfl rfl
  rw [Array.length_toList] at z0
  clear hA0 hval0 hsz0 hsz
  refine (FSpec.law (BitsSums_law W a0)).mono fun e W' ⟨he, bel⟩ => ?_
  subst he
  exact ⟨_, rfl, _, _, _, [], _, [], hW', trodAll_mk1 (shut_bool Try.underlying4 _), (trodAll_cons_mk (Below.trod laidOut (by kernel_rfl) (of_decide_eq_true (by kernel_rfl)) k0 bel lt0) trodAll_mk0), rfl, bel.frame _, fun h => by cases h⟩
theorem over : Rows.bitsSumsRow.holds Try.pinned (OpenSpec.ofChange Rows.bitsSumsSpec) :=
  OpenClaim.holds_of_wide 3 Try.f3 rfl rfl rfl rfl rfl rfl rfl ⟨rfl, rfl, rfl, rfl, rfl⟩ rfl rfl rfl rfl rfl (by kernel_rfl) Try.func3 (by kernel_rfl)
    (of_decide_eq_true (by kernel_rfl)) (by unfold Func.isWrapper; first | (rw [if_pos (by decide +kernel)]; kernel_rfl) | (rw [if_neg (by decide +kernel)]; exact ⟨rfl, rfl⟩))
    (fun os started H enc _ => lifted os started H enc)
end Go.Proofs.Ytdmlcnecildliaa.bitsSums
namespace Go.Proofs.Ytdmlcnecildliaa
theorem bitsSums_holds : Rows.BitsSumsSaid := bitsSums.over
#print axioms bitsSums_holds
end Go.Proofs.Ytdmlcnecildliaa
namespace Go.Proofs.Ytdmlcnecildliaa
open Go.SLA
end Go.Proofs.Ytdmlcnecildliaa
