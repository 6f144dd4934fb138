/- Contracts of functions of the translation, each proved by a walk over its code; they are used by the texts that import this one. -/
import Derived.Test.YtjpbpfihacfndaaBa
import Derived.Test.YtjpbpfihacfndaaH
namespace Go.Proofs.Ytjpbpfihacfndaa
open Go.SLA
set_option maxRecDepth 100000
set_option linter.unusedVariables false
set_option linter.unusedSimpArgs false
attribute [local irreducible] J L K QL Rg FSpec OpV OpX Rd Back

theorem bn_left {s r : ByteArray} {i : Nat} (h : i < s.size) : bn (s ++ r) i = bn s i := by
  have h' : i < s.data.toList.length := by rw [Array.length_toList]; exact h
  unfold bn
  rw [ByteArray.data_append, Array.toList_append, List.getD_eq_getElem?_getD, List.getD_eq_getElem?_getD, List.getElem?_append_left h']
theorem bn_right {s r : ByteArray} {i : Nat} (h : s.size ≤ i) : bn (s ++ r) i = bn r (i - s.size) := by
  have h' : s.data.toList.length ≤ i := by rw [Array.length_toList]; exact h
  unfold bn
  rw [ByteArray.data_append, Array.toList_append, List.getD_eq_getElem?_getD, List.getD_eq_getElem?_getD, List.getElem?_append_right h', Array.length_toList]
  rfl
theorem wsum_left {s r : ByteArray} : ∀ {k : Nat}, k ≤ s.size → wsum (s ++ r) k = wsum s k
  | 0, _ => rfl
  | k + 1, h => by rw [wsum, wsum, wsum_left (by omega), bn_left (by omega)]
theorem wsum_pair {s : ByteArray} {k : Nat} (h : k % 2 = 0) : wsum s (k + 2) = wsum s k + 256 * bn s k + bn s (k + 1) := by
  rw [wsum, wsum, if_pos h, if_neg (by omega)]
  omega
theorem wsum_pad (s : ByteArray) : wsum (s ++ bytesL [0]) (s.size + 1) = wsum s s.size := by
  rw [wsum, wsum_left (Nat.le_refl _), bn_right (Nat.le_refl _), Nat.sub_self]
  show _ + 0 * _ = _
  omega

theorem bfits_spec (m w : Int) (hw : 0 ≤ w ∧ w ≤ 9223372036854775807) (hm : -9223372036854775808 ≤ m ∧ m ≤ 9223372036854775807) : FSpec Try.prog 73 #[.int .i64 m, .int .i64 w] (emp) (fun _ : Unit => True) (fun _ => .bool (decide (0 ≤ m ∧ m / 2 ^ (min w.toNat 64) = 0))) (fun _ => emp) := by
  refine FSpec.enter' Try.func73 rfl Try.ntmps73 rfl fun σ F => ?_
  refine J_seq ?_
  refine J_region ?_
  refine L_v (opv_assign rfl) rfl ?_
  refine L_nil ?_
  refine K_then ?_
  refine J_seq ?_
  refine J_region ?_
  refine L_v (opv_move rfl) rfl ?_
  refine L_v (opv_geq rfl rfl) rfl ?_
  refine L_v (opv_move rfl) rfl ?_
  refine L_gt rfl rfl (fun h1 => ?_) (fun h1 => ?_) (fun _ h => by cases h; rfl)
  · refine L_v (opv_move rfl) rfl ?_
    refine L_gt_on h1 rfl rfl ?_
    first
      | refine L_v (opv_convW rfl (Go.IntWalk.u64_in _ (by omega))) rfl ?_
      | refine L_v (opv_convert rfl) rfl ?_
    refine L_gt_on h1 rfl rfl ?_
    refine L_v (opv_move rfl) rfl ?_
    refine L_gt_on h1 rfl rfl ?_
    first
      | refine L_v (opv_convW rfl (Go.IntWalk.u64_in _ (by omega))) rfl ?_
      | refine L_v (opv_convert rfl) rfl ?_
    refine L_gt_on h1 rfl rfl ?_
    first
      | refine L_v (opv_shrP rfl rfl (by omega)) rfl ?_
      | refine L_v (opv_shr rfl rfl (by omega)) rfl ?_
    refine L_gt_on h1 rfl rfl ?_
    first
      | refine L_v (opv_eql rfl rfl) rfl ?_
      | refine L_v (opv_eqlS rfl rfl) rfl ?_
      | refine L_v (opv_eqlNil rfl rfl) rfl ?_
      | refine L_v (opv_eqlB rfl rfl) rfl ?_
    refine L_v (opv_pick_t rfl h1 rfl) rfl ?_
    refine L_v (opv_assign rfl) rfl ?_
    refine L_nil ?_
    refine K_then ?_
    refine J_ret ?_
    exact K_ret1 rfl rfl () trivial (by congr 1; exact decide_eq_decide.2 ⟨fun h => ⟨by omega, h⟩, fun h => h.2⟩) (Ent.refl _)
  · refine L_gt_off h1 rfl rfl ?_ (fun _ h => by cases h; rfl)
    refine L_gt_off h1 rfl rfl ?_ (fun _ h => by cases h; rfl)
    refine L_gt_off h1 rfl rfl ?_ (fun _ h => by cases h; rfl)
    refine L_gt_off h1 rfl rfl ?_ (fun _ h => by cases h; rfl)
    refine L_gt_off h1 rfl rfl ?_ (fun _ h => by cases h; rfl)
    refine L_v (opv_pick_f rfl h1 rfl) rfl ?_
    refine L_v (opv_assign rfl) rfl ?_
    refine L_nil ?_
    refine K_then ?_
    refine J_ret ?_
    exact K_ret1 rfl rfl () trivial (by congr 1; exact (decide_eq_false (fun h => absurd h.1 (by omega))).symm) (Ent.refl _)

end Go.Proofs.Ytjpbpfihacfndaa
