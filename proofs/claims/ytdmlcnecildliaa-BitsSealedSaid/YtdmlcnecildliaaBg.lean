/- The law BitsSealed of the package pitotlaw01 holds for every input: a text of an even length with its Ones put behind has the Ones 0. No condition. -/
import Derived.Test.YtdmlcnecildliaaBf
import Derived.Test.YtdmlcnecildliaaH
namespace Go.Proofs.Ytdmlcnecildliaa
open Go.SLA
set_option maxRecDepth 100000
set_option linter.unusedVariables false
set_option linter.unusedSimpArgs false
attribute [local irreducible] J L K QL Rg FSpec OpV OpX Rd Back

theorem fold_mod (n : Nat) : fold n % 65535 = n % 65535 := by
  induction n using Nat.strongRecOn with
  | _ n ih =>
    by_cases h : n ≤ 65535
    · rw [fold_a h]
    · rw [fold_b h, ih _ (by omega)]
      omega
theorem fold_zero (n : Nat) (h : fold n = 0) : n = 0 := by
  induction n using Nat.strongRecOn with
  | _ n ih =>
    by_cases h1 : n ≤ 65535
    · rwa [fold_a h1] at h
    · rw [fold_b h1] at h
      have := ih _ (by omega) h
      omega
theorem bn_two {a b : Int} (ha : 0 ≤ a ∧ a < 256) (hb : 0 ≤ b ∧ b < 256) : bn (bytesL [a, b]) 0 = a.toNat ∧ bn (bytesL [a, b]) 1 = b.toNat := by
  unfold bn bytesL
  simp only [List.map_cons, List.map_nil, List.getD_cons_zero, List.getD_cons_succ, UInt8.toNat_ofNat']
  exact ⟨Nat.mod_eq_of_lt (by omega), Nat.mod_eq_of_lt (by omega)⟩
theorem sealed (s : ByteArray) (h : s.size % 2 = 0) : ones (s ++ bytesL [((ones s : Nat) : Int) / 256, ((ones s : Nat) : Int) % 256]) = 0 := by
  have h1 := fold_le (wsum s s.size)
  have ho : ones s = 65535 - fold (wsum s s.size) := rfl
  have h2 := bn_two (a := ((ones s : Nat) : Int) / 256) (b := ((ones s : Nat) : Int) % 256) (by omega) (by omega)
  have hsz : (s ++ bytesL [((ones s : Nat) : Int) / 256, ((ones s : Nat) : Int) % 256]).size = s.size + 2 := by rw [ByteArray.size_append, bytesL_size]; rfl
  have hw : wsum (s ++ bytesL [((ones s : Nat) : Int) / 256, ((ones s : Nat) : Int) % 256]) (s.size + 2) = wsum s s.size + ones s := by
    rw [wsum_pair h, wsum_left (Nat.le_refl _), bn_right (Nat.le_refl _), bn_right (by omega), Nat.sub_self, show s.size + 1 - s.size = 1 by omega, h2.1, h2.2]
    omega
  have hm := fold_mod (wsum s s.size + ones s)
  have hm0 := fold_mod (wsum s s.size)
  have hl := fold_le (wsum s s.size + ones s)
  have hz : fold (wsum s s.size + ones s) ≠ 0 := fun e => by
    have := fold_zero _ e
    have h0 : wsum s s.size = 0 := by omega
    rw [h0, fold_a (by decide)] at ho
    omega
  unfold ones at *
  rw [hsz, hw]
  omega

theorem BitsSealed_law (W : World) (s : ByteArray) : FSpec Try.prog 4 #[.string s] (old W) (fun _ : Unit => True) (fun _ => .bool true) (fun _ => old W) := by
  have ho : ones s ≤ 65535 := Nat.sub_le _ _
  refine FSpec.enter' Try.func4 rfl Try.ntmps4 rfl fun σ F => ?_
  refine J_seq ?_
  refine J_region ?_
  refine L_v (opv_assign rfl) rfl ?_
  refine L_nil ?_
  refine K_then ?_
  refine J_seq ?_
  refine J_seq ?_
  refine J_region ?_
  refine L_v (opv_move rfl) rfl ?_
  first
    | refine L_v (opv_lenL rfl) rfl ?_
    | refine L_v (opv_lenS rfl) rfl ?_
  refine L_v (opv_gtr rfl rfl) rfl ?_
  refine L_v (opv_move rfl) rfl ?_
  refine L_gf rfl rfl (fun h1 => ?_) (fun h1 => ?_) (fun _ h => by cases h; rfl)
  · refine L_v (opv_move rfl) rfl ?_
    refine L_gf_on h1 rfl rfl ?_
    first
      | refine L_v (opv_lenL rfl) rfl ?_
      | refine L_v (opv_lenS rfl) rfl ?_
    refine L_gf_on h1 rfl rfl ?_
    first
      | refine L_v (opv_remP rfl rfl (by omega)) rfl ?_
      | refine L_v (opv_rem rfl rfl (by omega)) rfl ?_
    refine L_gf_on h1 rfl rfl ?_
    first
      | refine L_v (opv_eql rfl rfl) rfl ?_
      | refine L_v (opv_eqlS rfl rfl) rfl ?_
      | refine L_v (opv_eqlNil rfl rfl) rfl ?_
      | refine L_v (opv_eqlB rfl rfl) rfl ?_
    refine L_v (opv_pick_f rfl h1 rfl) rfl ?_
    refine L_nil ?_
    refine K_then ?_
    refine J_cond rfl (fun h2 => ?_) (fun h2 => ?_)
    · refine J_seq ?_
      refine J_region ?_
      refine L_x rfl (opx_call0 (awake_spec) rfl rfl rfl) (fun _ _ => ?_)
      refine L_emp ?_
      refine L_v (opv_assign rfl) rfl ?_
      refine L_nil ?_
      refine K_then ?_
      refine J_ret ?_
      refine K_then_ret ?_
      exact K_ret1 rfl rfl () trivial (rfl) (Ent.trans Ent.take (Ent.refl _))
    · refine J_skip ?_
      refine K_then ?_
      refine J_seq ?_
      refine J_region ?_
      refine L_v (opv_move rfl) rfl ?_
      refine L_x rfl (opx_call0 (Ones_spec s (by omega)) rfl rfl rfl) (fun _ _ => ?_)
      refine L_emp ?_
      refine L_v (opv_assign rfl) rfl ?_
      refine L_nil ?_
      refine K_then ?_
      refine J_seq ?_
      refine J_seq ?_
      refine J_region ?_
      refine L_v (opv_move rfl) rfl ?_
      refine L_v ((opv_lss rfl rfl).bool_f (by omega)) rfl ?_
      refine L_v (opv_move rfl) rfl ?_
      refine L_gon rfl rfl rfl ?_
      refine L_v (opv_move rfl) rfl ?_
      refine L_gon rfl rfl rfl ?_
      refine L_v ((opv_gtr rfl rfl).bool_f (by omega)) rfl ?_
      first
        | refine L_v (opv_pick_tt rfl rfl) rfl ?_
        | refine L_v (opv_pick_ff rfl rfl) rfl ?_
        | refine L_v (opv_pick rfl rfl rfl) rfl ?_
      refine L_nil ?_
      refine K_then ?_
      refine J_cond_false rfl ?_
      refine J_skip ?_
      refine K_then ?_
      refine J_seq ?_
      refine J_region ?_
      refine L_v (opv_move rfl) rfl ?_
      refine L_v (opv_move rfl) rfl ?_
      first
        | refine L_v (opv_quoP rfl rfl (by omega)) rfl ?_
        | refine L_v (opv_quo rfl rfl (by omega)) rfl ?_
      first
        | refine L_v (opv_convW rfl (Go.IntWalk.u8_in _ (by omega))) rfl ?_
        | refine L_v (opv_convert rfl) rfl ?_
      refine L_v (opv_move rfl) rfl ?_
      first
        | refine L_v (opv_remP rfl rfl (by omega)) rfl ?_
        | refine L_v (opv_rem rfl rfl (by omega)) rfl ?_
      first
        | refine L_v (opv_convW rfl (Go.IntWalk.u8_in _ (by omega))) rfl ?_
        | refine L_v (opv_convert rfl) rfl ?_
      refine L_x rfl (opx_buildSliceL rfl rfl rfl (by omega) (by simp [Value.cells]) rfl) (fun b29 _ => ?_)
      refine L_v (opv_b2sL ([((ones s : Nat) : Int) / 256, ((ones s : Nat) : Int) % 256]) rfl rfl rfl (by simp; try omega)) rfl ?_
      refine L_v (opv_addS rfl rfl (by rw [bytesL_size]; show s.size + 2 ≤ _; omega)) rfl ?_
      refine L_x rfl (opx_call0 (Ones_spec (s ++ bytesL [((ones s : Nat) : Int) / 256, ((ones s : Nat) : Int) % 256]) (by rw [ByteArray.size_append, bytesL_size]; show s.size + 2 ≤ _; omega)) rfl rfl rfl) (fun _ _ => ?_)
      refine L_emp ?_
      refine L_v ((opv_eql rfl rfl).bool_t (by rw [sealed s (by omega)]; rfl)) rfl ?_
      refine L_v (opv_move rfl) rfl ?_
      refine L_gon rfl rfl rfl ?_
      refine L_x rfl (opx_call0 (awake_spec) rfl rfl rfl) (fun _ _ => ?_)
      refine L_emp ?_
      first
        | refine L_v (opv_pick_tt rfl rfl) rfl ?_
        | refine L_v (opv_pick_ff rfl rfl) rfl ?_
        | refine L_v (opv_pick rfl rfl rfl) rfl ?_
      refine L_v (opv_assign rfl) rfl ?_
      refine L_nil ?_
      refine K_then ?_
      refine J_ret ?_
      exact K_ret1 rfl rfl () trivial (rfl) (Ent.trans Ent.take (Ent.refl _))
  · refine L_gf_off h1 rfl rfl ?_ (fun _ h => by cases h; rfl)
    refine L_gf_off h1 rfl rfl ?_ (fun _ h => by cases h; rfl)
    refine L_gf_off h1 rfl rfl ?_ (fun _ h => by cases h; rfl)
    refine L_v (opv_pick_t rfl h1 rfl) rfl ?_
    refine L_nil ?_
    refine K_then ?_
    refine J_cond_true rfl ?_
    refine J_seq ?_
    refine J_region ?_
    refine L_x rfl (opx_call0 (awake_spec) rfl rfl rfl) (fun _ _ => ?_)
    refine L_emp ?_
    refine L_v (opv_assign rfl) rfl ?_
    refine L_nil ?_
    refine K_then ?_
    refine J_ret ?_
    refine K_then_ret ?_
    exact K_ret1 rfl rfl () trivial (rfl) (Ent.trans Ent.take (Ent.refl _))

end Go.Proofs.Ytdmlcnecildliaa
namespace Go.Proofs.Ytdmlcnecildliaa.bitsSealed
open Go.ChangeShapes Go.WideShapes Go.ChangeAt Go.RowKit Go.SLA
open Go.ChangeMaps (open_string shut_string)
set_option linter.unusedVariables false
theorem own : ownKnob Try.prog.godebug = none := by kernel_rfl
theorem laidOut : laidOutB Try.prog = true := by kernel_rfl
set_option maxRecDepth 100000 in
theorem lifted (os : Os) (started : os.Started) (H : Type) (enc : TypeId × Value → H) :
    ReturnsInHanded {} Try.checked os 4 .any (Rows.bitsSealedSpec.pre6 enc Try.prog Try.f4 Rows.bitsSealedRow.domain false) (Rows.bitsSealedSpec.post enc Try.prog Try.f4 false true false false) := by
  refine returnsInHanded_of_change_sized (C := Try.checked) own started (by kernel_rfl) Try.func4
    (ChangeSpec.witness6 (enc := enc) (C := Try.checked) false ⟨#[], #[.string ByteArray.empty], []⟩ 8 (by kernel_rfl) (by kernel_rfl) (by kernel_rfl) (by kernel_rfl)) ?_
  intro W base args ds gs before hval0 hW hcnd hsz0 _
  have hsz : (DataW.weightsEach Try.prog (Try.f4.params.toList ++ Rows.bitsSealedSpec.plain.varTypes Try.prog) (ds ++ gs)).all (· ≤ reachBytes) = true := hsz0
  have hval : ∀ (j : Nat) t v, Try.f4.params[j]? = some t → args[j]? = some v → Value.okWide Try.prog W .any base t v := hval0
  have hW' := hW
  obtain ⟨p, q, hA0, hV, rfl, hfz, hnd⟩ := hW
  have hA : DataW.TrodAll enc Try.prog W 0 (fun _ => true) true Try.f4.params.toList args.toList ds p := hA0
  rw [Try.params4] at hA hval hsz
  obtain ⟨v0, vs0, d0, ds0, p0, q0, hargs, rfl, rfl, h0, r0⟩ := trodAll_cons hA
  obtain ⟨rfl, rfl, rfl⟩ := trodAll_nil r0
  obtain rfl : args = #[v0] := by cases args; simp_all
  obtain ⟨rfl, rfl⟩ := trodVars_none hV
  have k0 := h0
  have lt0 : ∀ x ∈ p0, x.block < W.heap.size := by obtain ⟨m, hm⟩ := k0; exact DataW.trod_lt m _ _ _ hm
  obtain ⟨a0, rfl, rfl, rfl, y0⟩ := open_string Try.underlying9 (hval 0 9 v0 rfl rfl) h0
  have z0 := sized_string hsz (j := 0) (t := 9) rfl rfl
  rw [Array.length_toList] at z0
  clear hA0 hval0 hsz0 hsz
  refine (FSpec.law (BitsSealed_law W a0)).mono fun e W' ⟨he, bel⟩ => ?_
  subst he
  exact ⟨_, rfl, _, _, _, [], _, [], hW', trodAll_mk1 (shut_bool Try.underlying4 _), (trodAll_cons_mk (Below.trod laidOut (by kernel_rfl) (of_decide_eq_true (by kernel_rfl)) k0 bel lt0) trodAll_mk0), rfl, bel.frame _, fun h => by cases h⟩
theorem over : Rows.bitsSealedRow.holds Try.pinned (OpenSpec.ofChange Rows.bitsSealedSpec) :=
  OpenClaim.holds_of_wide 4 Try.f4 rfl rfl rfl rfl rfl rfl rfl ⟨rfl, rfl, rfl, rfl, rfl⟩ rfl rfl rfl rfl rfl (by kernel_rfl) Try.func4 (by kernel_rfl)
    (of_decide_eq_true (by kernel_rfl)) (by unfold Func.isWrapper; first | (rw [if_pos (by decide +kernel)]; kernel_rfl) | (rw [if_neg (by decide +kernel)]; exact ⟨rfl, rfl⟩))
    (fun os started H enc _ => lifted os started H enc)
end Go.Proofs.Ytdmlcnecildliaa.bitsSealed
namespace Go.Proofs.Ytdmlcnecildliaa
theorem bitsSealed_holds : Rows.BitsSealedSaid := bitsSealed.over
#print axioms bitsSealed_holds
end Go.Proofs.Ytdmlcnecildliaa
namespace Go.Proofs.Ytdmlcnecildliaa
open Go.SLA
end Go.Proofs.Ytdmlcnecildliaa
