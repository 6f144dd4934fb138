/- Contracts of functions of the translation, each proved by a walk over its code; they are used by the texts that import this one. -/
import Derived.Test.YtdmlcnecildliaaBa
import Derived.Test.YtdmlcnecildliaaH
namespace Go.Proofs.Ytdmlcnecildliaa
open Go.SLA
set_option maxRecDepth 100000
set_option linter.unusedVariables false
set_option linter.unusedSimpArgs false
attribute [local irreducible] J L K QL Rg FSpec OpV OpX Rd Back

theorem bn_left {s r : ByteArray} {i : Nat} (h : i < s.size) : bn (s ++ r) i = bn s i := by
  have h' : i < s.data.toList.length := by rw [Array.length_toList]; exact h
  unfold bn
  rw [ByteArray.data_append, Array.toList_append, List.getD_eq_getElem?_getD, List.getD_eq_getElem?_getD, List.getElem?_append_left h']
theorem bn_right {s r : ByteArray} {i : Nat} (h : s.size ≤ i) : bn (s ++ r) i = bn r (i - s.size) := by
  have h' : s.data.toList.length ≤ i := by rw [Array.length_toList]; exact h
  unfold bn
  rw [ByteArray.data_append, Array.toList_append, List.getD_eq_getElem?_getD, List.getD_eq_getElem?_getD, List.getElem?_append_right h', Array.length_toList]
  rfl
theorem wsum_left {s r : ByteArray} : ∀ {k : Nat}, k ≤ s.size → wsum (s ++ r) k = wsum s k
  | 0, _ => rfl
  | k + 1, h => by rw [wsum, wsum, wsum_left (by omega), bn_left (by omega)]
theorem wsum_pair {s : ByteArray} {k : Nat} (h : k % 2 = 0) : wsum s (k + 2) = wsum s k + 256 * bn s k + bn s (k + 1) := by
  rw [wsum, wsum, if_pos h, if_neg (by omega)]
  omega
theorem wsum_pad (s : ByteArray) : wsum (s ++ bytesL [0]) (s.size + 1) = wsum s s.size := by
  rw [wsum, wsum_left (Nat.le_refl _), bn_right (Nat.le_refl _), Nat.sub_self]
  show _ + 0 * _ = _
  omega

theorem ROnes_spec (s : ByteArray) (hs : s.size ≤ 1099511627776) : FSpec Try.prog 16 #[.string s] (emp) (fun _ : Unit => True) (fun _ => .int .i64 (ones s)) (fun _ => emp) := by
  have hws := wsum_le s s.size
  refine FSpec.enter' Try.func16 rfl Try.ntmps16 rfl fun σ F => ?_
  refine J_seq ?_
  refine J_region ?_
  refine L_v (opv_assign rfl) rfl ?_
  refine L_nil ?_
  refine K_then ?_
  refine J_cut (X := ByteArray) (fun q => [(0, .string q)]) (fun q => (sep (emp) (F))) (fun q => q.size % 2 = 0 ∧ wsum q q.size = wsum s s.size ∧ q.size ≤ s.size + 1) ?_ (fun q hq => ?_)
  · refine J_seq ?_
    refine J_region ?_
    refine L_v (opv_move rfl) rfl ?_
    first
      | refine L_v (opv_lenL rfl) rfl ?_
      | refine L_v (opv_lenS rfl) rfl ?_
    first
      | refine L_v (opv_remP rfl rfl (by omega)) rfl ?_
      | refine L_v (opv_rem rfl rfl (by omega)) rfl ?_
    first
      | refine L_v (opv_eql rfl rfl) rfl ?_
      | refine L_v (opv_eqlS rfl rfl) rfl ?_
      | refine L_v (opv_eqlNil rfl rfl) rfl ?_
      | refine L_v (opv_eqlB rfl rfl) rfl ?_
    refine L_nil ?_
    refine K_then ?_
    refine J_cond rfl (fun h1 => ?_) (fun h1 => ?_)
    · refine J_region ?_
      refine L_v (opv_move rfl) rfl ?_
      refine L_x rfl (opx_buildSlice1 (m := 1) rfl rfl (by omega) (by omega) rfl) (fun b10 _ => ?_)
      refine L_v (opv_b2sL ([0]) rfl rfl rfl (by simp; try omega)) rfl ?_
      refine L_v (opv_addS rfl rfl (by rw [bytesL_size]; show s.size + 1 ≤ _; omega)) rfl ?_
      refine L_v (opv_assign rfl) rfl ?_
      refine L_nil ?_
      exact K_cut (s ++ bytesL [0]) ⟨by rw [ByteArray.size_append, bytesL_size]; show (s.size + 1) % 2 = 0; omega, by rw [ByteArray.size_append, bytesL_size]; exact wsum_pad s, by rw [ByteArray.size_append, bytesL_size]; exact Nat.le_refl _⟩ ⟨rfl, trivial⟩ Ent.take
    · refine J_skip ?_
      exact K_cut s ⟨by omega, rfl, by omega⟩ ⟨rfl, trivial⟩ Ent.take
  · obtain ⟨hq1, hq2, hq3⟩ := hq
    refine J_seq ?_
    refine J_region ?_
    refine L_v (opv_assign rfl) rfl ?_
    refine L_nil ?_
    refine K_then ?_
    refine J_seq ?_
    refine J_seq ?_
    refine J_region ?_
    refine L_v (opv_assign rfl) rfl ?_
    refine L_nil ?_
    refine K_then ?_
    refine J_block ?_
    refine J_loop (X := Nat) (fun k => [(0, .string q), (3, .int .i64 (wsum q k)), (4, .int .i64 k)]) (fun k => (sep (emp) (F))) (fun k => k ≤ q.size ∧ k % 2 = 0) (fun k => q.size - k) (0) ⟨Nat.zero_le _, rfl⟩ ⟨rfl, rfl, rfl, trivial⟩ (Ent.refl _) (fun k hk => ?_)
    obtain ⟨hk, hk2⟩ := hk
    have hw := wsum_le q k
    have hb1 := bn_lt q k
    have hb2 := bn_lt q (k + 1)
    refine J_seq ?_
    refine J_seq ?_
    refine J_region ?_
    refine L_v (opv_move rfl) rfl ?_
    refine L_v (opv_move rfl) rfl ?_
    first
      | refine L_v (opv_lenL rfl) rfl ?_
      | refine L_v (opv_lenS rfl) rfl ?_
    refine L_v (opv_lss rfl rfl) rfl ?_
    refine L_nil ?_
    refine K_then ?_
    refine J_cond rfl (fun h2 => ?_) (fun h2 => ?_)
    · refine J_skip ?_
      refine K_then ?_
      refine J_seq ?_
      refine J_block ?_
      refine J_quiet Try.mixed (by kernel_rfl) ?_
      refine Q_v (opv_move rfl) rfl ?_
      refine Q_v (opv_move rfl) rfl ?_
      refine Q_v (opv_move rfl) rfl ?_
      refine Q_v ((opv_indexS rfl rfl (by omega)).as (v' := .int .u8 (bn q k)) rfl) rfl ?_
      first
        | refine Q_v (opv_convW rfl (Go.IntWalk.i64_in _ (by omega))) rfl ?_
        | refine Q_v (opv_convert rfl) rfl ?_
      first
        | refine Q_v (opv_mul64 rfl rfl (by omega)) rfl ?_
        | refine Q_v (opv_mul rfl rfl) rfl ?_
      first
        | refine Q_v (opv_add64 rfl rfl (by omega)) rfl ?_
        | refine Q_v (opv_addS rfl rfl (by omega)) rfl ?_
        | refine Q_v (opv_add rfl rfl) rfl ?_
      refine Q_v (opv_move rfl) rfl ?_
      refine Q_v (opv_move rfl) rfl ?_
      first
        | refine Q_v (opv_add64 rfl rfl (by omega)) rfl ?_
        | refine Q_v (opv_addS rfl rfl (by omega)) rfl ?_
        | refine Q_v (opv_add rfl rfl) rfl ?_
      refine Q_v ((opv_indexS rfl rfl (by omega)).as (v' := .int .u8 (bn q (k + 1))) rfl) rfl ?_
      first
        | refine Q_v (opv_convW rfl (Go.IntWalk.i64_in _ (by omega))) rfl ?_
        | refine Q_v (opv_convert rfl) rfl ?_
      first
        | refine Q_v (opv_add64 rfl rfl (by omega)) rfl ?_
        | refine Q_v (opv_addS rfl rfl (by omega)) rfl ?_
        | refine Q_v (opv_add rfl rfl) rfl ?_
      refine Q_v ((opv_assign rfl).as (v' := .int .i64 (wsum q (k + 2))) (by rw [wsum_pair hk2]; congr 1)) rfl ?_
      refine QL_nil ?_
      refine K_block ?_
      refine K_then ?_
      refine J_region ?_
      refine L_v (opv_move rfl) rfl ?_
      first
        | refine L_v (opv_add64 rfl rfl (by omega)) rfl ?_
        | refine L_v (opv_addS rfl rfl (by omega)) rfl ?_
        | refine L_v (opv_add rfl rfl) rfl ?_
      refine L_v (opv_assign rfl) rfl ?_
      refine L_nil ?_
      exact K_loop (k + 2) (by omega) (by omega) ⟨rfl, rfl, rfl, trivial⟩ (Ent.refl _)
    · have he : k = q.size := by omega
      subst he
      refine J_exit ?_
      refine K_then_exit ?_
      refine K_then_exit ?_
      refine K_block_here ?_
      refine K_then ?_
      refine J_seq ?_
      refine J_block ?_
      refine J_loop (X := Nat) (fun m => [(3, .int .i64 m)]) (fun m => (sep (emp) (F))) (fun m => m < 9223372036854775808 ∧ fold m = fold (wsum s s.size)) (fun m => m) ((wsum q q.size)) ⟨by omega, by rw [hq2]⟩ ⟨rfl, trivial⟩ (Ent.refl _) (fun m hm => ?_)
      obtain ⟨hm, hf⟩ := hm
      refine J_seq ?_
      refine J_seq ?_
      refine J_region ?_
      refine L_v (opv_move rfl) rfl ?_
      refine L_v (opv_gtr rfl rfl) rfl ?_
      refine L_nil ?_
      refine K_then ?_
      refine J_cond rfl (fun h3 => ?_) (fun h3 => ?_)
      · refine J_skip ?_
        refine K_then ?_
        refine J_block ?_
        refine J_region ?_
        refine L_v (opv_move rfl) rfl ?_
        first
          | refine L_v (opv_quoP rfl rfl (by omega)) rfl ?_
          | refine L_v (opv_quo rfl rfl (by omega)) rfl ?_
        refine L_v (opv_move rfl) rfl ?_
        first
          | refine L_v (opv_remP rfl rfl (by omega)) rfl ?_
          | refine L_v (opv_rem rfl rfl (by omega)) rfl ?_
        first
          | refine L_v (opv_add64 rfl rfl (by omega)) rfl ?_
          | refine L_v (opv_addS rfl rfl (by omega)) rfl ?_
          | refine L_v (opv_add rfl rfl) rfl ?_
        refine L_v (opv_assign rfl) rfl ?_
        refine L_nil ?_
        refine K_block ?_
        exact K_loop (m / 65536 + m % 65536) ⟨by omega, by rw [← hf]; exact (fold_b (by omega)).symm⟩ (by omega) ⟨rfl, trivial⟩ (Ent.refl _)
      · refine J_exit ?_
        refine K_then_exit ?_
        refine K_then_exit ?_
        refine K_block_here ?_
        refine K_then ?_
        refine J_seq ?_
        refine J_region ?_
        refine L_v (opv_move rfl) rfl ?_
        first
          | refine L_v (opv_sub64 rfl rfl (by omega)) rfl ?_
          | refine L_v (opv_sub rfl rfl) rfl ?_
        refine L_v (opv_assign rfl) rfl ?_
        refine L_nil ?_
        refine K_then ?_
        refine J_ret ?_
        have hfm : fold m = m := fold_a (by omega)
        exact K_ret1 rfl rfl () trivial (by rw [ones, ← hf, hfm]; congr 1; omega) (Ent.refl _)

theorem bfits_spec (m w : Int) (hw : 0 ≤ w ∧ w ≤ 9223372036854775807) (hm : -9223372036854775808 ≤ m ∧ m ≤ 9223372036854775807) : FSpec Try.prog 55 #[.int .i64 m, .int .i64 w] (emp) (fun _ : Unit => True) (fun _ => .bool (decide (0 ≤ m ∧ m / 2 ^ (min w.toNat 64) = 0))) (fun _ => emp) := by
  refine FSpec.enter' Try.func55 rfl Try.ntmps55 rfl fun σ F => ?_
  refine J_seq ?_
  refine J_region ?_
  refine L_v (opv_assign rfl) rfl ?_
  refine L_nil ?_
  refine K_then ?_
  refine J_seq ?_
  refine J_region ?_
  refine L_v (opv_move rfl) rfl ?_
  refine L_v (opv_geq rfl rfl) rfl ?_
  refine L_v (opv_move rfl) rfl ?_
  refine L_gt rfl rfl (fun h1 => ?_) (fun h1 => ?_) (fun _ h => by cases h; rfl)
  · refine L_v (opv_move rfl) rfl ?_
    refine L_gt_on h1 rfl rfl ?_
    first
      | refine L_v (opv_convW rfl (Go.IntWalk.u64_in _ (by omega))) rfl ?_
      | refine L_v (opv_convert rfl) rfl ?_
    refine L_gt_on h1 rfl rfl ?_
    refine L_v (opv_move rfl) rfl ?_
    refine L_gt_on h1 rfl rfl ?_
    first
      | refine L_v (opv_convW rfl (Go.IntWalk.u64_in _ (by omega))) rfl ?_
      | refine L_v (opv_convert rfl) rfl ?_
    refine L_gt_on h1 rfl rfl ?_
    first
      | refine L_v (opv_shrP rfl rfl (by omega)) rfl ?_
      | refine L_v (opv_shr rfl rfl (by omega)) rfl ?_
    refine L_gt_on h1 rfl rfl ?_
    first
      | refine L_v (opv_eql rfl rfl) rfl ?_
      | refine L_v (opv_eqlS rfl rfl) rfl ?_
      | refine L_v (opv_eqlNil rfl rfl) rfl ?_
      | refine L_v (opv_eqlB rfl rfl) rfl ?_
    refine L_v (opv_pick_t rfl h1 rfl) rfl ?_
    refine L_v (opv_assign rfl) rfl ?_
    refine L_nil ?_
    refine K_then ?_
    refine J_ret ?_
    exact K_ret1 rfl rfl () trivial (by congr 1; exact decide_eq_decide.2 ⟨fun h => ⟨by omega, h⟩, fun h => h.2⟩) (Ent.refl _)
  · refine L_gt_off h1 rfl rfl ?_ (fun _ h => by cases h; rfl)
    refine L_gt_off h1 rfl rfl ?_ (fun _ h => by cases h; rfl)
    refine L_gt_off h1 rfl rfl ?_ (fun _ h => by cases h; rfl)
    refine L_gt_off h1 rfl rfl ?_ (fun _ h => by cases h; rfl)
    refine L_gt_off h1 rfl rfl ?_ (fun _ h => by cases h; rfl)
    refine L_v (opv_pick_f rfl h1 rfl) rfl ?_
    refine L_v (opv_assign rfl) rfl ?_
    refine L_nil ?_
    refine K_then ?_
    refine J_ret ?_
    exact K_ret1 rfl rfl () trivial (by congr 1; exact (decide_eq_false (fun h => absurd h.1 (by omega))).symm) (Ent.refl _)

end Go.Proofs.Ytdmlcnecildliaa
