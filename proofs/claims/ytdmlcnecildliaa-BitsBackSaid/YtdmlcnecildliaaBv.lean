/- Contracts of the document's Writer, each proved by a walk over its code; they are used by the texts that import this one. -/
import Derived.Test.YtdmlcnecildliaaBf
import Derived.Test.YtdmlcnecildliaaZ
import Derived.Test.YtdmlcnecildliaaH
namespace Go.Proofs.Ytdmlcnecildliaa
open Go.SLA
set_option maxRecDepth 100000
set_option linter.unusedVariables false
set_option linter.unusedSimpArgs false
attribute [local irreducible] J L K QL Rg FSpec OpV OpX Rd Back

theorem fitW_iff {m : Int} {w : Nat} (hw : w ≤ 64) : fitB m w ↔ 0 ≤ m ∧ m < ((2 ^ w : Nat) : Int) := by
  unfold fitB
  rw [Int.toNat_natCast, Nat.min_eq_left hw, Int.natCast_pow]
  have hp : (0 : Int) < 2 ^ w := Int.pow_pos (by decide)
  show 0 ≤ m ∧ m / 2 ^ w = 0 ↔ 0 ≤ m ∧ m < 2 ^ w
  constructor
  · rintro ⟨h0, h1⟩
    refine ⟨h0, ?_⟩
    rcases Int.lt_or_le m (2 ^ w) with h | h
    · exact h
    · have h3 : 1 ≤ m / 2 ^ w := by rw [Int.le_ediv_iff_mul_le hp]; omega
      omega
  · rintro ⟨h0, h1⟩
    exact ⟨h0, Int.ediv_eq_zero_of_lt h0 h1⟩
theorem p2 {k w : Nat} (h : k < w) (hw : w ≤ 62) : 2 ^ (k + 1) ≤ 4611686018427387904 ∧ 2 ^ (k + 1) = 2 * 2 ^ k := by
  constructor
  · exact Nat.le_trans (Nat.pow_le_pow_right (by decide) (show k + 1 ≤ 62 by omega)) (by decide)
  · rw [Nat.pow_succ, Nat.mul_comm]

theorem RFits_spec (m : Int) (w : Nat) (hw : w ≤ 62) : FSpec Try.prog 56 #[.int .i64 m, .int .i64 (w : Nat)] (emp) (fun _ : Unit => True) (fun _ => .bool (decide (fitB m w))) (fun _ => emp) := by
  refine FSpec.enter' Try.func56 rfl Try.ntmps56 rfl fun σ F => ?_
  refine J_seq ?_
  refine J_region ?_
  refine L_v (opv_assign rfl) rfl ?_
  refine L_nil ?_
  refine K_then ?_
  refine J_seq ?_
  refine J_region ?_
  refine L_v (opv_assign rfl) rfl ?_
  refine L_nil ?_
  refine K_then ?_
  refine J_seq ?_
  refine J_seq ?_
  refine J_region ?_
  refine L_v (opv_assign rfl) rfl ?_
  refine L_nil ?_
  refine K_then ?_
  refine J_block ?_
  refine J_loop (X := Nat) (fun k => [(0, .int .i64 m), (1, .int .i64 (w : Nat)), (5, .int .i64 ((2 ^ k : Nat) : Int)), (6, .int .i64 k)]) (fun k => (sep (emp) (F))) (fun k => k ≤ w) (fun k => w - k) (0) (Nat.zero_le _) ⟨rfl, rfl, rfl, rfl, trivial⟩ (Ent.refl _) (fun k hk => ?_)
  refine J_seq ?_
  refine J_seq ?_
  refine J_region ?_
  refine L_v (opv_move rfl) rfl ?_
  refine L_v (opv_move rfl) rfl ?_
  refine L_v (opv_lss rfl rfl) rfl ?_
  refine L_nil ?_
  refine K_then ?_
  refine J_cond rfl (fun h1 => ?_) (fun h1 => ?_)
  · obtain ⟨hp1, hp2⟩ := p2 (show k < w by omega) hw
    refine J_skip ?_
    refine K_then ?_
    refine J_seq ?_
    refine J_block ?_
    refine J_region ?_
    refine L_v (opv_move rfl) rfl ?_
    refine L_v ((opv_mul64 rfl rfl (by omega)).as (v' := .int .i64 ((2 ^ (k + 1) : Nat) : Int)) (congrArg (Value.int .i64) (by omega))) rfl ?_
    refine L_v (opv_assign rfl) rfl ?_
    refine L_nil ?_
    refine K_block ?_
    refine K_then ?_
    refine J_region ?_
    refine L_v (opv_move rfl) rfl ?_
    first
      | refine L_v (opv_add64 rfl rfl (by omega)) rfl ?_
      | refine L_v (opv_addS rfl rfl (by omega)) rfl ?_
      | refine L_v (opv_add rfl rfl) rfl ?_
    refine L_v (opv_assign rfl) rfl ?_
    refine L_nil ?_
    exact K_loop (k + 1) (by omega) (by omega) ⟨rfl, rfl, rfl, rfl, trivial⟩ (Ent.refl _)
  · have hkw : k = w := by omega
    subst hkw
    refine J_exit ?_
    refine K_then_exit ?_
    refine K_then_exit ?_
    refine K_block_here ?_
    refine K_then ?_
    refine J_seq ?_
    refine J_region ?_
    refine L_v (opv_move rfl) rfl ?_
    refine L_v (opv_geq rfl rfl) rfl ?_
    refine L_v (opv_move rfl) rfl ?_
    refine L_gt rfl rfl (fun h2 => ?_) (fun h2 => ?_) (fun _ h => by cases h; rfl)
    · refine L_v (opv_move rfl) rfl ?_
      refine L_gt_on h2 rfl rfl ?_
      refine L_v (opv_move rfl) rfl ?_
      refine L_gt_on h2 rfl rfl ?_
      refine L_v (opv_lss rfl rfl) rfl ?_
      refine L_v (opv_pick_t rfl h2 rfl) rfl ?_
      refine L_v (opv_assign rfl) rfl ?_
      refine L_nil ?_
      refine K_then ?_
      refine J_ret ?_
      exact K_ret1 rfl rfl () trivial (congrArg Value.bool (by have e := fitW_iff (m := m) (w := k) (by omega); by_cases g1 : 0 ≤ m <;> by_cases g2 : m < ((2 ^ k : Nat) : Int) <;> simp_all)) (Ent.refl _)
    · refine L_gt_off h2 rfl rfl ?_ (fun _ h => by cases h; rfl)
      refine L_gt_off h2 rfl rfl ?_ (fun _ h => by cases h; rfl)
      refine L_v (opv_pick_f rfl h2 rfl) rfl ?_
      refine L_v (opv_assign rfl) rfl ?_
      refine L_nil ?_
      refine K_then ?_
      refine J_ret ?_
      exact K_ret1 rfl rfl () trivial (congrArg Value.bool (by have e := fitW_iff (m := m) (w := k) (by omega); by_cases g1 : 0 ≤ m <;> by_cases g2 : m < ((2 ^ k : Nat) : Int) <;> simp_all)) (Ent.refl _)

theorem RSum_spec (R0 : HProp) (A : Option Addr) (c : Nat) (ws : List Int) (hR : RdS R0 encZ 1 A ws) (hn : ws.length ≤ 9223372036854775807) (hw : ∀ v ∈ ws, -9223372036854775808 ≤ v ∧ v ≤ 9223372036854775807) : FSpec Try.prog 57 #[.slice A ws.length c] (R0) (fun _ : Unit => True) (fun _ => .int .i64 (sumW ws / 8)) (fun _ => R0) := by
  refine FSpec.enter' Try.func57 rfl Try.ntmps57 rfl fun σ F => ?_
  refine J_seq ?_
  refine J_region ?_
  refine L_v (opv_assign rfl) rfl ?_
  refine L_nil ?_
  refine K_then ?_
  refine J_seq ?_
  refine J_region ?_
  refine L_v (opv_assign rfl) rfl ?_
  refine L_nil ?_
  refine K_then ?_
  refine J_seq ?_
  refine J_seq ?_
  refine J_region ?_
  refine L_v (opv_assign rfl) rfl ?_
  refine L_nil ?_
  refine K_then ?_
  refine J_block ?_
  refine J_loop (X := Nat × Int) (fun y => [(0, .slice A ws.length c), (3, .int .i64 y.2), (4, .int .i64 y.1)]) (fun y => (sep (R0) (F))) (fun y => (y.1 ≤ ws.length ∧ -64 ≤ y.2 ∧ y.2 ≤ 64) ∧ sumGo 0 ws = sumGo y.2 (ws.drop y.1)) (fun y => ws.length - y.1) ((0, 0)) ⟨⟨Nat.zero_le _, by decide, by decide⟩, rfl⟩ ⟨rfl, rfl, rfl, trivial⟩ (Ent.refl _) (fun y hy => ?_)
  obtain ⟨⟨hk, hb1, hb2⟩, hy⟩ := hy
  refine J_seq ?_
  refine J_seq ?_
  refine J_region ?_
  refine L_v (opv_move rfl) rfl ?_
  refine L_v (opv_move rfl) rfl ?_
  first
    | refine L_v (opv_lenL rfl) rfl ?_
    | refine L_v (opv_lenS rfl) rfl ?_
  refine L_v (opv_lss rfl rfl) rfl ?_
  refine L_nil ?_
  refine K_then ?_
  refine J_cond rfl (fun h1 => ?_) (fun h1 => ?_)
  · have hkl : y.1 < ws.length := by omega
    obtain ⟨v, hv⟩ : ∃ v, ws[y.1]? = some v := ⟨_, List.getElem?_eq_getElem hkl⟩
    obtain ⟨b, o, rfl⟩ := hR.nonnil y.1 hkl
    have hd := sumGo_drop (n := y.2) hv
    have hwv := hw v (List.mem_of_getElem? hv)
    refine J_skip ?_
    refine K_then ?_
    refine J_seq ?_
    refine J_block ?_
    refine J_seq ?_
    refine J_seq ?_
    refine J_region ?_
    refine L_v (opv_move rfl) rfl ?_
    refine L_v (opv_move rfl) rfl ?_
    first
      | refine L_v (opv_indexAddr rfl rfl (by omega)) rfl ?_
      | refine L_v (opv_indexAddrA rfl rfl (by omega)) rfl ?_
    refine L_v (opv_load rfl (Rd.of_take (S := R0) (hR.rd b o rfl y.1 v 0 _ hv rfl))) rfl ?_
    refine L_v (opv_lss rfl rfl) rfl ?_
    refine L_v (opv_move rfl) rfl ?_
    refine L_gf rfl rfl (fun h2 => ?_) (fun h2 => ?_) (fun _ h => by cases h; rfl)
    · refine L_v (opv_move rfl) rfl ?_
      refine L_gf_on h2 rfl rfl ?_
      refine L_v (opv_move rfl) rfl ?_
      refine L_gf_on h2 rfl rfl ?_
      first
        | refine L_v (opv_indexAddr rfl rfl (by omega)) rfl ?_
        | refine L_v (opv_indexAddrA rfl rfl (by omega)) rfl ?_
      refine L_gf_on h2 rfl rfl ?_
      refine L_v (opv_load rfl (Rd.of_take (S := R0) (hR.rd b o rfl y.1 v 0 _ hv rfl))) rfl ?_
      refine L_gf_on h2 rfl rfl ?_
      refine L_v (opv_gtr rfl rfl) rfl ?_
      refine L_v (opv_pick_f rfl h2 rfl) rfl ?_
      refine L_v (opv_move rfl) rfl ?_
      refine L_gf rfl rfl (fun h3 => ?_) (fun h3 => ?_) (fun _ h => by cases h; rfl)
      · refine L_v (opv_move rfl) rfl ?_
        refine L_gf_on h3 rfl rfl ?_
        refine L_v (opv_gtr rfl rfl) rfl ?_
        refine L_v (opv_pick_f rfl h3 rfl) rfl ?_
        refine L_nil ?_
        refine K_then ?_
        refine J_cond rfl (fun h4 => ?_) (fun h4 => ?_)
        · refine J_seq ?_
          refine J_region ?_
          refine L_v (opv_assign rfl) rfl ?_
          refine L_nil ?_
          refine K_then ?_
          refine J_ret ?_
          refine K_then_ret ?_
          refine K_block_ret ?_
          refine K_then_ret ?_
          refine K_then_ret ?_
          refine K_block_ret ?_
          refine K_then_ret ?_
          rw [if_pos (by omega)] at hd
          exact K_ret1 rfl rfl () trivial (rvz (by rw [sumW, hy, hd]; rfl)) (Ent.refl _)
        · refine J_skip ?_
          refine K_then ?_
          refine J_region ?_
          refine L_v (opv_move rfl) rfl ?_
          refine L_v (opv_move rfl) rfl ?_
          refine L_v (opv_move rfl) rfl ?_
          first
            | refine L_v (opv_indexAddr rfl rfl (by omega)) rfl ?_
            | refine L_v (opv_indexAddrA rfl rfl (by omega)) rfl ?_
          refine L_v (opv_load rfl (Rd.of_take (S := R0) (hR.rd b o rfl y.1 v 0 _ hv rfl))) rfl ?_
          first
            | refine L_v (opv_add64 rfl rfl (by omega)) rfl ?_
            | refine L_v (opv_addS rfl rfl (by omega)) rfl ?_
            | refine L_v (opv_add rfl rfl) rfl ?_
          refine L_v (opv_assign rfl) rfl ?_
          refine L_nil ?_
          refine K_block ?_
          refine K_then ?_
          refine J_region ?_
          refine L_v (opv_move rfl) rfl ?_
          first
            | refine L_v (opv_add64 rfl rfl (by omega)) rfl ?_
            | refine L_v (opv_addS rfl rfl (by omega)) rfl ?_
            | refine L_v (opv_add rfl rfl) rfl ?_
          refine L_v (opv_assign rfl) rfl ?_
          refine L_nil ?_
          rw [if_neg (by omega)] at hd
          exact K_loop ((y.1 + 1, y.2 + v)) ⟨⟨by show y.1 + 1 ≤ _; omega, by show -64 ≤ y.2 + v; omega, by show y.2 + v ≤ 64; omega⟩, by rw [hy, hd]⟩ (by show _ - (y.1 + 1) < _; omega) ⟨rfl, rfl, rfl, trivial⟩ (Ent.refl _)
      · refine L_gf_off h3 rfl rfl ?_ (fun _ h => by cases h; rfl)
        refine L_v (opv_pick_t rfl h3 rfl) rfl ?_
        refine L_nil ?_
        refine K_then ?_
        refine J_cond_true rfl ?_
        refine J_seq ?_
        refine J_region ?_
        refine L_v (opv_assign rfl) rfl ?_
        refine L_nil ?_
        refine K_then ?_
        refine J_ret ?_
        refine K_then_ret ?_
        refine K_block_ret ?_
        refine K_then_ret ?_
        refine K_then_ret ?_
        refine K_block_ret ?_
        refine K_then_ret ?_
        rw [if_pos (by omega)] at hd
        exact K_ret1 rfl rfl () trivial (rvz (by rw [sumW, hy, hd]; rfl)) (Ent.refl _)
    · refine L_gf_off h2 rfl rfl ?_ (fun _ h => by cases h; rfl)
      refine L_gf_off h2 rfl rfl ?_ (fun _ h => by cases h; rfl)
      refine L_gf_off h2 rfl rfl ?_ (fun _ h => by cases h; rfl)
      refine L_gf_off h2 rfl rfl ?_ (fun _ h => by cases h; rfl)
      refine L_v (opv_pick_t rfl h2 rfl) rfl ?_
      refine L_v (opv_move rfl) rfl ?_
      refine L_gskip rfl rfl rfl ?_ (fun _ h => by cases h; rfl)
      refine L_gskip rfl rfl rfl ?_ (fun _ h => by cases h; rfl)
      first
        | refine L_v (opv_pick_tt rfl rfl) rfl ?_
        | refine L_v (opv_pick_ff rfl rfl) rfl ?_
        | refine L_v (opv_pick rfl rfl rfl) rfl ?_
      refine L_nil ?_
      refine K_then ?_
      refine J_cond_true rfl ?_
      refine J_seq ?_
      refine J_region ?_
      refine L_v (opv_assign rfl) rfl ?_
      refine L_nil ?_
      refine K_then ?_
      refine J_ret ?_
      refine K_then_ret ?_
      refine K_block_ret ?_
      refine K_then_ret ?_
      refine K_then_ret ?_
      refine K_block_ret ?_
      refine K_then_ret ?_
      rw [if_pos (by omega)] at hd
      exact K_ret1 rfl rfl () trivial (rvz (by rw [sumW, hy, hd]; rfl)) (Ent.refl _)
  · refine J_exit ?_
    refine K_then_exit ?_
    refine K_then_exit ?_
    refine K_block_here ?_
    refine K_then ?_
    refine J_seq ?_
    refine J_seq ?_
    refine J_region ?_
    refine L_v (opv_move rfl) rfl ?_
    first
      | refine L_v (opv_eql rfl rfl) rfl ?_
      | refine L_v (opv_eqlS rfl rfl) rfl ?_
      | refine L_v (opv_eqlNil rfl rfl) rfl ?_
      | refine L_v (opv_eqlB rfl rfl) rfl ?_
    refine L_v (opv_move rfl) rfl ?_
    refine L_gf rfl rfl (fun h5 => ?_) (fun h5 => ?_) (fun _ h => by cases h; rfl)
    · refine L_v (opv_move rfl) rfl ?_
      refine L_gf_on h5 rfl rfl ?_
      first
        | refine L_v (opv_eql rfl rfl) rfl ?_
        | refine L_v (opv_eqlS rfl rfl) rfl ?_
        | refine L_v (opv_eqlNil rfl rfl) rfl ?_
        | refine L_v (opv_eqlB rfl rfl) rfl ?_
      refine L_v (opv_pick_f rfl h5 rfl) rfl ?_
      refine L_v (opv_move rfl) rfl ?_
      refine L_gf rfl rfl (fun h6 => ?_) (fun h6 => ?_) (fun _ h => by cases h; rfl)
      · refine L_v (opv_move rfl) rfl ?_
        refine L_gf_on h6 rfl rfl ?_
        first
          | refine L_v (opv_eql rfl rfl) rfl ?_
          | refine L_v (opv_eqlS rfl rfl) rfl ?_
          | refine L_v (opv_eqlNil rfl rfl) rfl ?_
          | refine L_v (opv_eqlB rfl rfl) rfl ?_
        refine L_v (opv_pick_f rfl h6 rfl) rfl ?_
        refine L_nil ?_
        refine K_then ?_
        refine J_cond rfl (fun h7 => ?_) (fun h7 => ?_)
        · refine J_seq ?_
          refine J_region ?_
          refine L_v (opv_move rfl) rfl ?_
          refine L_v ((opv_quoP rfl rfl (by omega))) rfl ?_
          refine L_v (opv_assign rfl) rfl ?_
          refine L_nil ?_
          refine K_then ?_
          refine J_ret ?_
          refine K_then_ret ?_
          have he : y.1 = ws.length := by omega
          rw [he, List.drop_length] at hy
          have e : sumW ws = if y.2 = 8 ∨ y.2 = 16 ∨ y.2 = 32 then y.2 else 0 := by rw [sumW, hy, sumGo]
          first | (rw [if_pos (by omega)] at e; exact K_ret1 rfl rfl () trivial (rvz (by rw [e])) (Ent.refl _)) | (rw [if_neg (by omega)] at e; exact K_ret1 rfl rfl () trivial (rvz (by rw [e]; rfl)) (Ent.refl _))
        · refine J_skip ?_
          refine K_then ?_
          refine J_seq ?_
          refine J_region ?_
          refine L_v (opv_assign rfl) rfl ?_
          refine L_nil ?_
          refine K_then ?_
          refine J_ret ?_
          have he : y.1 = ws.length := by omega
          rw [he, List.drop_length] at hy
          have e : sumW ws = if y.2 = 8 ∨ y.2 = 16 ∨ y.2 = 32 then y.2 else 0 := by rw [sumW, hy, sumGo]
          first | (rw [if_pos (by omega)] at e; exact K_ret1 rfl rfl () trivial (rvz (by rw [e])) (Ent.refl _)) | (rw [if_neg (by omega)] at e; exact K_ret1 rfl rfl () trivial (rvz (by rw [e]; rfl)) (Ent.refl _))
      · refine L_gf_off h6 rfl rfl ?_ (fun _ h => by cases h; rfl)
        refine L_v (opv_pick_t rfl h6 rfl) rfl ?_
        refine L_nil ?_
        refine K_then ?_
        refine J_cond_true rfl ?_
        refine J_seq ?_
        refine J_region ?_
        refine L_v (opv_move rfl) rfl ?_
        refine L_v ((opv_quoP rfl rfl (by omega))) rfl ?_
        refine L_v (opv_assign rfl) rfl ?_
        refine L_nil ?_
        refine K_then ?_
        refine J_ret ?_
        refine K_then_ret ?_
        have he : y.1 = ws.length := by omega
        rw [he, List.drop_length] at hy
        have e : sumW ws = if y.2 = 8 ∨ y.2 = 16 ∨ y.2 = 32 then y.2 else 0 := by rw [sumW, hy, sumGo]
        first | (rw [if_pos (by omega)] at e; exact K_ret1 rfl rfl () trivial (rvz (by rw [e])) (Ent.refl _)) | (rw [if_neg (by omega)] at e; exact K_ret1 rfl rfl () trivial (rvz (by rw [e]; rfl)) (Ent.refl _))
    · refine L_gf_off h5 rfl rfl ?_ (fun _ h => by cases h; rfl)
      refine L_v (opv_pick_t rfl h5 rfl) rfl ?_
      refine L_v (opv_move rfl) rfl ?_
      refine L_gskip rfl rfl rfl ?_ (fun _ h => by cases h; rfl)
      refine L_gskip rfl rfl rfl ?_ (fun _ h => by cases h; rfl)
      first
        | refine L_v (opv_pick_tt rfl rfl) rfl ?_
        | refine L_v (opv_pick_ff rfl rfl) rfl ?_
        | refine L_v (opv_pick rfl rfl rfl) rfl ?_
      refine L_nil ?_
      refine K_then ?_
      refine J_cond_true rfl ?_
      refine J_seq ?_
      refine J_region ?_
      refine L_v (opv_move rfl) rfl ?_
      refine L_v ((opv_quoP rfl rfl (by omega))) rfl ?_
      refine L_v (opv_assign rfl) rfl ?_
      refine L_nil ?_
      refine K_then ?_
      refine J_ret ?_
      refine K_then_ret ?_
      have he : y.1 = ws.length := by omega
      rw [he, List.drop_length] at hy
      have e : sumW ws = if y.2 = 8 ∨ y.2 = 16 ∨ y.2 = 32 then y.2 else 0 := by rw [sumW, hy, sumGo]
      first | (rw [if_pos (by omega)] at e; exact K_ret1 rfl rfl () trivial (rvz (by rw [e])) (Ent.refl _)) | (rw [if_neg (by omega)] at e; exact K_ret1 rfl rfl () trivial (rvz (by rw [e]; rfl)) (Ent.refl _))

theorem RWPut_bad (q : Nat) (s : ByteArray) (m : Int) (c : Nat) (hc : 1 ≤ c ∧ c ≤ 4) : FSpec Try.prog 48 #[.pointer (some (ad q 0)), .int .i64 m, .int .i64 (c : Nat)] (cel q [.string s, .bool true] 45) (fun _ : Unit => True) (fun _ => .tuple #[]) (fun _ => cel q [.string s, .bool true] 45) := by
  refine FSpec.enter' Try.func48 rfl Try.ntmps48 rfl fun σ F => ?_
  refine J_seq ?_
  refine J_seq ?_
  refine J_region ?_
  refine L_v (opv_move rfl) rfl ?_
  refine L_v (opv_move rfl) rfl ?_
  refine L_v ((opv_mul64 rfl rfl (by omega)).as (v' := .int .i64 ((8 * c : Nat) : Int)) (congrArg (Value.int .i64) (by omega))) rfl ?_
  refine L_x rfl (opx_call0 (RFits_spec m (8 * c) (by omega)) rfl rfl rfl) (fun _ _ => ?_)
  refine L_emp ?_
  refine L_v ((opv_notD rfl)) rfl ?_
  refine L_nil ?_
  refine K_then ?_
  refine J_cond rfl (fun h1 => ?_) (fun h1 => ?_)
  · refine J_region ?_
    refine L_v (opv_move rfl) rfl ?_
    refine L_v (opv_nilCheck rfl) rfl ?_
    first
      | refine L_v (opv_fieldAddr0 rfl) rfl ?_
      | refine L_v (opv_fieldAddr rfl) rfl ?_
    refine L_x rfl (opx_store rfl rfl rfl (by simp [Value.oneCell'])) (fun _ _ => ?_)
    refine L_nil ?_
    refine K_then ?_
    refine J_seq ?_
    refine J_region ?_
    refine L_v (opv_move rfl) rfl ?_
    refine L_v (opv_nilCheck rfl) rfl ?_
    first
      | refine L_v (opv_fieldAddr0 rfl) rfl ?_
      | refine L_v (opv_fieldAddr rfl) rfl ?_
    refine L_v (opv_load rfl (Rd.look rfl)) rfl ?_
    refine L_v (opv_not rfl) rfl ?_
    refine L_nil ?_
    refine K_then ?_
    refine J_cond_false rfl ?_
    refine J_skip ?_
    exact K_end0 rfl () trivial rfl Ent.take
  · refine J_skip ?_
    refine K_then ?_
    refine J_seq ?_
    refine J_region ?_
    refine L_v (opv_move rfl) rfl ?_
    refine L_v (opv_nilCheck rfl) rfl ?_
    first
      | refine L_v (opv_fieldAddr0 rfl) rfl ?_
      | refine L_v (opv_fieldAddr rfl) rfl ?_
    refine L_v (opv_load rfl (Rd.look rfl)) rfl ?_
    refine L_v (opv_not rfl) rfl ?_
    refine L_nil ?_
    refine K_then ?_
    refine J_cond_false rfl ?_
    refine J_skip ?_
    exact K_end0 rfl () trivial rfl Ent.take

theorem RWPut_unfit (q : Nat) (s : ByteArray) (m : Int) (c : Nat) (hc : 1 ≤ c ∧ c ≤ 4) (h : ¬ fitB m (8 * c)) : FSpec Try.prog 48 #[.pointer (some (ad q 0)), .int .i64 m, .int .i64 (c : Nat)] (cel q [.string s, .bool false] 45) (fun _ : Unit => True) (fun _ => .tuple #[]) (fun _ => cel q [.string s, .bool true] 45) := by
  refine FSpec.enter' Try.func48 rfl Try.ntmps48 rfl fun σ F => ?_
  refine J_seq ?_
  refine J_seq ?_
  refine J_region ?_
  refine L_v (opv_move rfl) rfl ?_
  refine L_v (opv_move rfl) rfl ?_
  refine L_v ((opv_mul64 rfl rfl (by omega)).as (v' := .int .i64 ((8 * c : Nat) : Int)) (congrArg (Value.int .i64) (by omega))) rfl ?_
  refine L_x rfl (opx_call0 (RFits_spec m (8 * c) (by omega)) rfl rfl rfl) (fun _ _ => ?_)
  refine L_emp ?_
  refine L_v ((opv_notD rfl).bool_t h) rfl ?_
  refine L_nil ?_
  refine K_then ?_
  refine J_cond_true rfl ?_
  refine J_region ?_
  refine L_v (opv_move rfl) rfl ?_
  refine L_v (opv_nilCheck rfl) rfl ?_
  first
    | refine L_v (opv_fieldAddr0 rfl) rfl ?_
    | refine L_v (opv_fieldAddr rfl) rfl ?_
  refine L_x rfl (opx_store rfl rfl rfl (by simp [Value.oneCell'])) (fun _ _ => ?_)
  refine L_nil ?_
  refine K_then ?_
  refine J_seq ?_
  refine J_region ?_
  refine L_v (opv_move rfl) rfl ?_
  refine L_v (opv_nilCheck rfl) rfl ?_
  first
    | refine L_v (opv_fieldAddr0 rfl) rfl ?_
    | refine L_v (opv_fieldAddr rfl) rfl ?_
  refine L_v (opv_load rfl (Rd.look rfl)) rfl ?_
  refine L_v (opv_not rfl) rfl ?_
  refine L_nil ?_
  refine K_then ?_
  refine J_cond_false rfl ?_
  refine J_skip ?_
  exact K_end0 rfl () trivial rfl Ent.take

theorem RWPut_fit (q : Nat) (s : ByteArray) (m c : Nat) (hc : 1 ≤ c ∧ c ≤ 4) (hm : m ≤ 9223372036854775807) (h : fitB (m : Int) (8 * c)) (hs : s.size ≤ 1099511627776) : FSpec Try.prog 48 #[.pointer (some (ad q 0)), .int .i64 (m : Nat), .int .i64 (c : Nat)] (cel q [.string s, .bool false] 45) (fun _ : Unit => True) (fun _ => .tuple #[]) (fun _ => cel q [.string (s ++ be m c), .bool false] 45) := by
  have hbe := be_size m c
  refine FSpec.enter' Try.func48 rfl Try.ntmps48 rfl fun σ F => ?_
  refine J_seq ?_
  refine J_seq ?_
  refine J_region ?_
  refine L_v (opv_move rfl) rfl ?_
  refine L_v (opv_move rfl) rfl ?_
  refine L_v ((opv_mul64 rfl rfl (by omega)).as (v' := .int .i64 ((8 * c : Nat) : Int)) (congrArg (Value.int .i64) (by omega))) rfl ?_
  refine L_x rfl (opx_call0 (RFits_spec m (8 * c) (by omega)) rfl rfl rfl) (fun _ _ => ?_)
  refine L_emp ?_
  refine L_v ((opv_notD rfl).bool_f (fun n => n h)) rfl ?_
  refine L_nil ?_
  refine K_then ?_
  refine J_cond_false rfl ?_
  refine J_skip ?_
  refine K_then ?_
  refine J_seq ?_
  refine J_region ?_
  refine L_v (opv_move rfl) rfl ?_
  refine L_v (opv_nilCheck rfl) rfl ?_
  first
    | refine L_v (opv_fieldAddr0 rfl) rfl ?_
    | refine L_v (opv_fieldAddr rfl) rfl ?_
  refine L_v (opv_load rfl (Rd.look rfl)) rfl ?_
  refine L_v (opv_not rfl) rfl ?_
  refine L_nil ?_
  refine K_then ?_
  refine J_cond_true rfl ?_
  refine J_steps (emp) (cel q [.string s, .bool false] 45) [11] Try.mixed ?_
  refine R_pure 0 rfl (by kernel_rfl) (by kernel_rfl) (by kernel_rfl) (by kernel_rfl) (.inr ⟨_, Take.eq (A := cel q [.string s, .bool false] 45)⟩) (opv_move rfl) rfl ?_
  refine R_pure 1 rfl (by kernel_rfl) (by kernel_rfl) (by kernel_rfl) (by kernel_rfl) (.inr ⟨_, Take.eq (A := cel q [.string s, .bool false] 45)⟩) (opv_move rfl) rfl ?_
  refine R_pure 2 rfl (by kernel_rfl) (by kernel_rfl) (by kernel_rfl) (by kernel_rfl) (.inr ⟨_, Take.eq (A := cel q [.string s, .bool false] 45)⟩) (opv_nilCheck rfl) rfl ?_
  first
    | refine R_pure 3 rfl (by kernel_rfl) (by kernel_rfl) (by kernel_rfl) (by kernel_rfl) (.inr ⟨_, Take.eq (A := cel q [.string s, .bool false] 45)⟩) (opv_fieldAddr0 rfl) rfl ?_
    | refine R_pure 3 rfl (by kernel_rfl) (by kernel_rfl) (by kernel_rfl) (by kernel_rfl) (.inr ⟨_, Take.eq (A := cel q [.string s, .bool false] 45)⟩) (opv_fieldAddr rfl) rfl ?_
  refine R_take 4 rfl (by kernel_rfl) (by kernel_rfl) (by kernel_rfl) (by kernel_rfl) (by kernel_rfl) (opv_load rfl (Rd.look rfl)) rfl ?_
  refine R_pure 5 rfl (by kernel_rfl) (by kernel_rfl) (by kernel_rfl) (by kernel_rfl) (.inr ⟨_, Take.eq (A := cel q [.string s, .bool false] 45)⟩) (opv_move rfl) rfl ?_
  refine R_pure 6 rfl (by kernel_rfl) (by kernel_rfl) (by kernel_rfl) (by kernel_rfl) (.inr ⟨_, Take.eq (A := cel q [.string s, .bool false] 45)⟩) (opv_move rfl) rfl ?_
  refine R_only 7 rfl rfl (by kernel_rfl) (opx_call0 (RNum_spec m c hm (by omega)) rfl rfl rfl) (fun _ _ => ⟨_, Take.eq (A := emp)⟩) (.inr fun _ _ => ⟨_, Take.eq (A := cel q [.string s, .bool false] 45)⟩) (fun _ _ => ?_)
  refine Rg_emp ?_
  refine R_pure 8 rfl (by kernel_rfl) (by kernel_rfl) (by kernel_rfl) (by kernel_rfl) (.inr ⟨_, Take.eq (A := cel q [.string s, .bool false] 45)⟩) ((opv_addS rfl rfl (by omega))) rfl ?_
  refine R_pure 9 rfl (by kernel_rfl) (by kernel_rfl) (by kernel_rfl) (by kernel_rfl) (.inr ⟨_, Take.eq (A := cel q [.string s, .bool false] 45)⟩) (opv_nilCheck rfl) rfl ?_
  first
    | refine R_pure 10 rfl (by kernel_rfl) (by kernel_rfl) (by kernel_rfl) (by kernel_rfl) (.inr ⟨_, Take.eq (A := cel q [.string s, .bool false] 45)⟩) (opv_fieldAddr0 rfl) rfl ?_
    | refine R_pure 10 rfl (by kernel_rfl) (by kernel_rfl) (by kernel_rfl) (by kernel_rfl) (.inr ⟨_, Take.eq (A := cel q [.string s, .bool false] 45)⟩) (opv_fieldAddr rfl) rfl ?_
  refine R_only 11 rfl rfl (by kernel_rfl) (opx_store rfl rfl rfl (by simp [Value.oneCell'])) (fun _ _ => ⟨_, Take.eq (A := emp)⟩) (.inl (by kernel_rfl)) (fun _ _ => ?_)
  refine R_done (by kernel_rfl) ?_
  exact K_end0 rfl () trivial rfl Ent.take


theorem RWPut_any (q : Nat) (s : ByteArray) (bad : Bool) (m : Int) (c : Nat) (hc : 1 ≤ c ∧ c ≤ 4) (hm : -9223372036854775808 ≤ m ∧ m ≤ 9223372036854775807) (hs : s.size ≤ 1099511627776) : FSpec Try.prog 48 #[.pointer (some (ad q 0)), .int .i64 m, .int .i64 (c : Nat)] (cel q [.string s, .bool bad] 45) (fun _ : Unit => True) (fun _ => .tuple #[]) (fun _ => cel q [.string (putS s bad m c).1, .bool (putS s bad m c).2] 45) := by
  unfold putS
  cases bad with
  | true =>
    rw [if_pos rfl]
    exact RWPut_bad q s m c hc
  | false =>
    rw [if_neg (by decide)]
    by_cases h : fitB m (8 * c)
    · rw [if_pos h]
      obtain ⟨k, rfl⟩ : ∃ k : Nat, m = k := ⟨m.toNat, by have := h.1; omega⟩
      exact RWPut_fit q s k c hc (by omega) h hs
    · rw [if_neg h]
      exact RWPut_unfit q s m c hc h

theorem RWText_bad (q : Nat) (s t : ByteArray) : FSpec Try.prog 49 #[.pointer (some (ad q 0)), .string t] (cel q [.string s, .bool true] 45) (fun _ : Unit => True) (fun _ => .tuple #[]) (fun _ => cel q [.string s, .bool true] 45) := by
  refine FSpec.enter' Try.func49 rfl Try.ntmps49 rfl fun σ F => ?_
  refine J_seq ?_
  refine J_region ?_
  refine L_v (opv_move rfl) rfl ?_
  refine L_v (opv_nilCheck rfl) rfl ?_
  first
    | refine L_v (opv_fieldAddr0 rfl) rfl ?_
    | refine L_v (opv_fieldAddr rfl) rfl ?_
  refine L_v (opv_load rfl (Rd.look rfl)) rfl ?_
  refine L_v (opv_not rfl) rfl ?_
  refine L_nil ?_
  refine K_then ?_
  refine J_cond_false rfl ?_
  refine J_skip ?_
  exact K_end0 rfl () trivial rfl Ent.take

theorem RWText_ok (q : Nat) (s t : ByteArray) (hs : s.size ≤ 1099511627776) (ht : t.size ≤ 1099511627776) : FSpec Try.prog 49 #[.pointer (some (ad q 0)), .string t] (cel q [.string s, .bool false] 45) (fun _ : Unit => True) (fun _ => .tuple #[]) (fun _ => cel q [.string (s ++ t), .bool false] 45) := by
  refine FSpec.enter' Try.func49 rfl Try.ntmps49 rfl fun σ F => ?_
  refine J_seq ?_
  refine J_region ?_
  refine L_v (opv_move rfl) rfl ?_
  refine L_v (opv_nilCheck rfl) rfl ?_
  first
    | refine L_v (opv_fieldAddr0 rfl) rfl ?_
    | refine L_v (opv_fieldAddr rfl) rfl ?_
  refine L_v (opv_load rfl (Rd.look rfl)) rfl ?_
  refine L_v (opv_not rfl) rfl ?_
  refine L_nil ?_
  refine K_then ?_
  refine J_cond_true rfl ?_
  refine J_region ?_
  refine L_v (opv_move rfl) rfl ?_
  refine L_v (opv_move rfl) rfl ?_
  refine L_v (opv_nilCheck rfl) rfl ?_
  first
    | refine L_v (opv_fieldAddr0 rfl) rfl ?_
    | refine L_v (opv_fieldAddr rfl) rfl ?_
  refine L_v (opv_load rfl (Rd.look rfl)) rfl ?_
  refine L_v (opv_move rfl) rfl ?_
  refine L_v ((opv_addS rfl rfl (by omega))) rfl ?_
  refine L_v (opv_nilCheck rfl) rfl ?_
  first
    | refine L_v (opv_fieldAddr0 rfl) rfl ?_
    | refine L_v (opv_fieldAddr rfl) rfl ?_
  refine L_x rfl (opx_store rfl rfl rfl (by simp [Value.oneCell'])) (fun _ _ => ?_)
  refine L_nil ?_
  exact K_end0 rfl () trivial rfl Ent.take

theorem RWBytes_bad (q : Nat) (s : ByteArray) : FSpec Try.prog 26 #[.pointer (some (ad q 0))] (cel q [.string s, .bool true] 45) (fun _ : Unit => True) (fun _ => .tuple #[.string ByteArray.empty, .int .i64 1]) (fun _ => cel q [.string s, .bool true] 45) := by
  refine FSpec.enter' Try.func26 rfl Try.ntmps26 rfl fun σ F => ?_
  refine J_seq ?_
  refine J_region ?_
  refine L_v (opv_assign rfl) rfl ?_
  refine L_v (opv_assign rfl) rfl ?_
  refine L_nil ?_
  refine K_then ?_
  refine J_seq ?_
  refine J_seq ?_
  refine J_region ?_
  refine L_v (opv_move rfl) rfl ?_
  refine L_v (opv_nilCheck rfl) rfl ?_
  first
    | refine L_v (opv_fieldAddr0 rfl) rfl ?_
    | refine L_v (opv_fieldAddr rfl) rfl ?_
  refine L_v (opv_load rfl (Rd.look rfl)) rfl ?_
  refine L_nil ?_
  refine K_then ?_
  refine J_cond_true rfl ?_
  refine J_seq ?_
  refine J_region ?_
  refine L_v (opv_assign rfl) rfl ?_
  refine L_v (opv_assign rfl) rfl ?_
  refine L_nil ?_
  refine K_then ?_
  refine J_ret ?_
  refine K_then_ret ?_
  exact K_ret2 rfl rfl rfl () trivial rfl Ent.take

theorem RWBytes_ok (q : Nat) (s : ByteArray) : FSpec Try.prog 26 #[.pointer (some (ad q 0))] (cel q [.string s, .bool false] 45) (fun _ : Unit => True) (fun _ => .tuple #[.string s, .int .i64 0]) (fun _ => cel q [.string s, .bool false] 45) := by
  refine FSpec.enter' Try.func26 rfl Try.ntmps26 rfl fun σ F => ?_
  refine J_seq ?_
  refine J_region ?_
  refine L_v (opv_assign rfl) rfl ?_
  refine L_v (opv_assign rfl) rfl ?_
  refine L_nil ?_
  refine K_then ?_
  refine J_seq ?_
  refine J_seq ?_
  refine J_region ?_
  refine L_v (opv_move rfl) rfl ?_
  refine L_v (opv_nilCheck rfl) rfl ?_
  first
    | refine L_v (opv_fieldAddr0 rfl) rfl ?_
    | refine L_v (opv_fieldAddr rfl) rfl ?_
  refine L_v (opv_load rfl (Rd.look rfl)) rfl ?_
  refine L_nil ?_
  refine K_then ?_
  refine J_cond_false rfl ?_
  refine J_skip ?_
  refine K_then ?_
  refine J_seq ?_
  refine J_region ?_
  refine L_v (opv_move rfl) rfl ?_
  refine L_v (opv_nilCheck rfl) rfl ?_
  first
    | refine L_v (opv_fieldAddr0 rfl) rfl ?_
    | refine L_v (opv_fieldAddr rfl) rfl ?_
  refine L_v (opv_load rfl (Rd.look rfl)) rfl ?_
  refine L_v (opv_assign rfl) rfl ?_
  refine L_v (opv_assign rfl) rfl ?_
  refine L_nil ?_
  refine K_then ?_
  refine J_ret ?_
  exact K_ret2 rfl rfl rfl () trivial rfl Ent.take

end Go.Proofs.Ytdmlcnecildliaa
