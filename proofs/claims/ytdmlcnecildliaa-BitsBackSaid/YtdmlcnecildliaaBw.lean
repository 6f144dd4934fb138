/- Contracts of the document's Writer of bits, proved by a walk over its code; they are used by the texts that import this one. -/
import Derived.Test.YtdmlcnecildliaaBv
import Derived.Test.YtdmlcnecildliaaH
namespace Go.Proofs.Ytdmlcnecildliaa
open Go.SLA
set_option maxRecDepth 100000
set_option linter.unusedVariables false
set_option linter.unusedSimpArgs false
attribute [local irreducible] J L K QL Rg FSpec OpV OpX Rd Back

theorem sumW_vals (ws : List Int) : sumW ws = 0 ∨ sumW ws = 8 ∨ sumW ws = 16 ∨ sumW ws = 32 := by
  unfold sumW
  split
  · split
    · rename_i h; exact .inr h
    · exact .inl rfl
  · exact .inl rfl
theorem pbnd {n t j w : Nat} (hn : n < 2 ^ t) (hj : j < w) (hw : t + w ≤ 32) : n * 2 ^ (j + 1) ≤ 4294967296 ∧ n * 2 ^ (j + 1) = 2 * (n * 2 ^ j) := by
  constructor
  · have h1 : n * 2 ^ (j + 1) ≤ 2 ^ t * 2 ^ w := Nat.mul_le_mul (Nat.le_of_lt hn) (Nat.pow_le_pow_right (by decide) hj)
    rw [← Nat.pow_add] at h1
    exact Nat.le_trans h1 (Nat.le_trans (Nat.pow_le_pow_right (by decide) hw) (by decide))
  · rw [Nat.pow_succ, ← Nat.mul_assoc, Nat.mul_comm]

theorem RWBits_no (q : Nat) (s : ByteArray) (R0 : HProp) (A B : Option Addr) (c1 c2 : Nat) (ws ls : List Int) (hR : RdS R0 encZ 1 A ws) (hL : RdS R0 encZ 1 B ls) (hn : ws.length ≤ 1000000 ∧ ls.length ≤ 1000000) (hw : ∀ v ∈ ws, -9223372036854775808 ≤ v ∧ v ≤ 9223372036854775807) (hl : ∀ v ∈ ls, -9223372036854775808 ≤ v ∧ v ≤ 9223372036854775807) (h : sumW ws = 0 ∨ ws.length ≠ ls.length) : FSpec Try.prog 50 #[.pointer (some (ad q 0)), .slice A ws.length c1, .slice B ls.length c2] ((sep (cel q [.string s, .bool false] 45) (R0))) (fun _ : Unit => True) (fun _ => .tuple #[]) (fun _ => (sep (cel q [.string s, .bool true] 45) (R0))) := by
  have hsv := sumW_vals ws
  refine FSpec.enter' Try.func50 rfl Try.ntmps50 rfl fun σ F => ?_
  refine J_seq ?_
  refine J_region ?_
  refine L_v (opv_move rfl) rfl ?_
  refine L_x rfl (opx_call0 (RSum_spec R0 A c1 ws hR (by omega) hw) rfl rfl rfl) (fun _ _ => ?_)
  refine L_v (opv_assign rfl) rfl ?_
  refine L_nil ?_
  refine K_then ?_
  refine J_seq ?_
  refine J_seq ?_
  refine J_region ?_
  refine L_v (opv_move rfl) rfl ?_
  refine L_v ((opv_eql rfl rfl).as (v' := .bool (decide (sumW ws = 0))) (congrArg Value.bool (decide_eq_decide.2 (by omega)))) rfl ?_
  refine L_v (opv_move rfl) rfl ?_
  refine L_gf rfl rfl (fun h1 => ?_) (fun h1 => ?_) (fun _ h => by cases h; rfl)
  · refine L_v (opv_move rfl) rfl ?_
    refine L_gf_on h1 rfl rfl ?_
    first
      | refine L_v (opv_lenL rfl) rfl ?_
      | refine L_v (opv_lenS rfl) rfl ?_
    refine L_gf_on h1 rfl rfl ?_
    refine L_v (opv_move rfl) rfl ?_
    refine L_gf_on h1 rfl rfl ?_
    first
      | refine L_v (opv_lenL rfl) rfl ?_
      | refine L_v (opv_lenS rfl) rfl ?_
    refine L_gf_on h1 rfl rfl ?_
    first
      | refine L_v (opv_neq rfl rfl) rfl ?_
      | refine L_v (opv_neqS rfl rfl) rfl ?_
      | refine L_v (opv_neqNil rfl rfl) rfl ?_
      | refine L_v (opv_neqB rfl rfl) rfl ?_
    refine L_v (opv_pick_f rfl h1 rfl) rfl ?_
    refine L_nil ?_
    refine K_then ?_
    refine J_cond rfl (fun h2 => ?_) (fun h2 => by exfalso; omega)
    refine J_seq ?_
    refine J_region ?_
    refine L_v (opv_move rfl) rfl ?_
    refine L_v (opv_nilCheck rfl) rfl ?_
    first
      | refine L_v (opv_fieldAddr0 rfl) rfl ?_
      | refine L_v (opv_fieldAddr rfl) rfl ?_
    refine L_x rfl (opx_store rfl rfl rfl (by simp [Value.oneCell'])) (fun _ _ => ?_)
    refine L_nil ?_
    refine K_then ?_
    refine J_ret ?_
    refine K_then_ret ?_
    exact K_ret0 rfl () trivial rfl Ent.take
  · refine L_gf_off h1 rfl rfl ?_ (fun _ h => by cases h; rfl)
    refine L_gf_off h1 rfl rfl ?_ (fun _ h => by cases h; rfl)
    refine L_gf_off h1 rfl rfl ?_ (fun _ h => by cases h; rfl)
    refine L_gf_off h1 rfl rfl ?_ (fun _ h => by cases h; rfl)
    refine L_v (opv_pick_t rfl h1 rfl) rfl ?_
    refine L_nil ?_
    refine K_then ?_
    refine J_cond_true rfl ?_
    refine J_seq ?_
    refine J_region ?_
    refine L_v (opv_move rfl) rfl ?_
    refine L_v (opv_nilCheck rfl) rfl ?_
    first
      | refine L_v (opv_fieldAddr0 rfl) rfl ?_
      | refine L_v (opv_fieldAddr rfl) rfl ?_
    refine L_x rfl (opx_store rfl rfl rfl (by simp [Value.oneCell'])) (fun _ _ => ?_)
    refine L_nil ?_
    refine K_then ?_
    refine J_ret ?_
    refine K_then_ret ?_
    exact K_ret0 rfl () trivial rfl Ent.take

set_option maxHeartbeats 800000 in
theorem RWBits_go (q : Nat) (s : ByteArray) (R0 : HProp) (A B : Option Addr) (c1 c2 : Nat) (ws ls : List Int) (hR : RdS R0 encZ 1 A ws) (hL : RdS R0 encZ 1 B ls) (hn : ws.length ≤ 1000000 ∧ ls.length ≤ 1000000) (hw : ∀ v ∈ ws, -9223372036854775808 ≤ v ∧ v ≤ 9223372036854775807) (hl : ∀ v ∈ ls, -9223372036854775808 ≤ v ∧ v ≤ 9223372036854775807) (hne : sumW ws ≠ 0) (hlen : ws.length = ls.length) (hs : s.size ≤ 1099511627776) : FSpec Try.prog 50 #[.pointer (some (ad q 0)), .slice A ws.length c1, .slice B ls.length c2] ((sep (cel q [.string s, .bool false] 45) (R0))) (fun _ : Unit => True) (fun _ => .tuple #[]) (fun _ => (sep (cel q [.string (bitsS s false ws ls).1, .bool (bitsS s false ws ls).2] 45) (R0))) := by
  obtain ⟨c, hc1, hc4, hcw, hcs⟩ := sumW_some hne
  have hc8 : sumW ws / 8 = ((c : Nat) : Int) := by rw [hcw]; omega
  refine FSpec.enter' Try.func50 rfl Try.ntmps50 rfl fun σ F => ?_
  refine J_seq ?_
  refine J_region ?_
  refine L_v (opv_move rfl) rfl ?_
  refine L_x rfl (opx_call0 (RSum_spec R0 A c1 ws hR (by omega) hw) rfl rfl rfl) (fun _ _ => ?_)
  rw [hc8]
  refine L_v (opv_assign rfl) rfl ?_
  refine L_nil ?_
  refine K_then ?_
  refine J_seq ?_
  refine J_seq ?_
  refine J_region ?_
  refine L_v (opv_move rfl) rfl ?_
  refine L_v ((opv_eql rfl rfl).bool_f (by omega)) rfl ?_
  refine L_v (opv_move rfl) rfl ?_
  refine L_gon rfl rfl rfl ?_
  refine L_v (opv_move rfl) rfl ?_
  refine L_gon rfl rfl rfl ?_
  first
    | refine L_v (opv_lenL rfl) rfl ?_
    | refine L_v (opv_lenS rfl) rfl ?_
  refine L_gon rfl rfl rfl ?_
  refine L_v (opv_move rfl) rfl ?_
  refine L_gon rfl rfl rfl ?_
  first
    | refine L_v (opv_lenL rfl) rfl ?_
    | refine L_v (opv_lenS rfl) rfl ?_
  refine L_gon rfl rfl rfl ?_
  refine L_v ((opv_neq rfl rfl).bool_f (by omega)) rfl ?_
  first
    | refine L_v (opv_pick_tt rfl rfl) rfl ?_
    | refine L_v (opv_pick_ff rfl rfl) rfl ?_
    | refine L_v (opv_pick rfl rfl rfl) rfl ?_
  refine L_nil ?_
  refine K_then ?_
  refine J_cond_false rfl ?_
  refine J_skip ?_
  refine K_then ?_
  refine J_seq ?_
  refine J_region ?_
  refine L_v (opv_assign rfl) rfl ?_
  refine L_nil ?_
  refine K_then ?_
  refine J_seq ?_
  refine J_seq ?_
  refine J_region ?_
  refine L_v (opv_assign rfl) rfl ?_
  refine L_nil ?_
  refine K_then ?_
  refine J_block ?_
  refine J_loop (X := Nat × Nat × Nat) (fun y => [(0, .pointer (some (ad q 0))), (1, .slice A ws.length c1), (2, .slice B ls.length c2), (6, .int .i64 (c : Nat)), (7, .int .i64 (y.2.1 : Nat)), (8, .int .i64 y.1)]) (fun y => (sep (cel q [.string s, .bool false] 45) (sep (R0) (F)))) (fun y => y.1 ≤ ls.length ∧ 8 * c ≤ 32 ∧ y.2.1 < 2 ^ y.2.2 ∧ pack 0 ws ls = pack y.2.1 (ws.drop y.1) (ls.drop y.1) ∧ sumGo (y.2.2 : Int) (ws.drop y.1) = some ((8 * c : Nat) : Int)) (fun y => ls.length - y.1) ((0, 0, 0)) ⟨Nat.zero_le _, by omega, by decide, rfl, hcs⟩ ⟨rfl, rfl, rfl, rfl, rfl, rfl, trivial⟩ (by first | exact Ent.take | exact Ent.refl _) (fun y hy => ?_)
  obtain ⟨hk, hc32, hlt, hpk, hsum⟩ := hy
  have ht := sumGo_le hsum
  refine J_seq ?_
  refine J_seq ?_
  refine J_region ?_
  refine L_v (opv_move rfl) rfl ?_
  refine L_v (opv_move rfl) rfl ?_
  first
    | refine L_v (opv_lenL rfl) rfl ?_
    | refine L_v (opv_lenS rfl) rfl ?_
  refine L_v (opv_lss rfl rfl) rfl ?_
  refine L_nil ?_
  refine K_then ?_
  refine J_cond rfl (fun h1 => ?_) (fun h1 => ?_)
  · have hkl : y.1 < ls.length := by omega
    obtain ⟨v, hv⟩ : ∃ v, ws[y.1]? = some v := ⟨_, List.getElem?_eq_getElem (show y.1 < ws.length by omega)⟩
    obtain ⟨u, hu⟩ : ∃ u, ls[y.1]? = some u := ⟨_, List.getElem?_eq_getElem hkl⟩
    obtain ⟨b, o, rfl⟩ := hR.nonnil y.1 (by omega)
    obtain ⟨b2, o2, rfl⟩ := hL.nonnil y.1 hkl
    have hpd := pack_drop (n := y.2.1) hv hu
    have hsd := sumGo_drop (n := (y.2.2 : Int)) hv
    have hwv := hw v (List.mem_of_getElem? hv)
    have hlu := hl u (List.mem_of_getElem? hu)
    have hv1 : 1 ≤ v ∧ v ≤ 32 := by (rw [hsum] at hsd; split at hsd; cases hsd; omega)
    rw [if_neg (by omega), hsum] at hsd
    have htv := sumGo_le hsd.symm
    obtain ⟨w, rfl⟩ : ∃ w : Nat, v = w := ⟨v.toNat, by omega⟩
    refine J_skip ?_
    refine K_then ?_
    refine J_seq ?_
    refine J_block ?_
    refine J_seq ?_
    refine J_seq ?_
    refine J_quiet Try.mixed (by kernel_rfl) ?_
    refine Q_v (opv_move rfl) rfl ?_
    refine Q_v (opv_move rfl) rfl ?_
    first
      | refine Q_v (opv_indexAddr rfl rfl (by omega)) rfl ?_
      | refine Q_v (opv_indexAddrA rfl rfl (by omega)) rfl ?_
    first
      | refine Q_v (opv_load rfl (Rd.of_take (S := R0) (hL.rd b2 o2 rfl y.1 u 0 _ hu rfl))) rfl ?_
      | refine Q_v (opv_load rfl (Rd.of_take (S := R0) (hL.rd b2 o2 rfl y.1 (k : Int) 0 _ hu rfl))) rfl ?_
    refine Q_v (opv_move rfl) rfl ?_
    refine Q_v (opv_move rfl) rfl ?_
    first
      | refine Q_v (opv_indexAddr rfl rfl (by omega)) rfl ?_
      | refine Q_v (opv_indexAddrA rfl rfl (by omega)) rfl ?_
    refine Q_v (opv_load rfl (Rd.of_take (S := R0) (hR.rd b o rfl y.1 (w : Int) 0 _ hv rfl))) rfl ?_
    refine Q_call (RFits_spec u w (by omega)) rfl rfl (fun _ _ => rfl) (fun _ _ => Ent.refl _) rfl ?_
    refine Q_v ((opv_notD rfl)) rfl ?_
    refine QL_nil ?_
    refine K_then ?_
    refine J_cond rfl (fun h2 => ?_) (fun h2 => ?_)
    · refine J_seq ?_
      refine J_region ?_
      refine L_v (opv_move rfl) rfl ?_
      refine L_v (opv_nilCheck rfl) rfl ?_
      first
        | refine L_v (opv_fieldAddr0 rfl) rfl ?_
        | refine L_v (opv_fieldAddr rfl) rfl ?_
      refine L_x rfl (opx_store rfl rfl rfl (by simp [Value.oneCell'])) (fun _ _ => ?_)
      refine L_nil ?_
      refine K_then ?_
      refine J_ret ?_
      refine K_then_ret ?_
      refine K_block_ret ?_
      refine K_then_ret ?_
      refine K_then_ret ?_
      refine K_block_ret ?_
      refine K_then_ret ?_
      rw [if_neg (show ¬ fitB u ((w : Int)).toNat from h2)] at hpd
      rw [show bitsS s false ws ls = (s, true) by unfold bitsS; rw [if_neg (by decide), if_neg (by omega), hpk, hpd]]
      exact K_ret0 rfl () trivial rfl Ent.take
    · have hfit : fitB u w := Classical.not_not.1 h2
      obtain ⟨k, rfl, hk2⟩ := fit_lt' hfit (by omega)
      have hgr := grow hlt hk2
      have hp32 : 2 ^ (y.2.2 + w) ≤ 4294967296 := Nat.le_trans (Nat.pow_le_pow_right (by decide) (show y.2.2 + w ≤ 32 by omega)) (by decide)
      rw [show (↑w : Int).toNat = w from rfl, if_pos hfit] at hpd
      refine J_skip ?_
      refine K_then ?_
      refine J_seq ?_
      refine J_seq ?_
      refine J_region ?_
      refine L_v (opv_assign rfl) rfl ?_
      refine L_nil ?_
      refine K_then ?_
      refine J_block ?_
      refine J_loop (X := Nat) (fun j => [(0, .pointer (some (ad q 0))), (1, .slice (some (ad b o)) ws.length c1), (2, .slice (some (ad b2 o2)) ls.length c2), (6, .int .i64 (c : Nat)), (7, .int .i64 ((y.2.1 * 2 ^ j : Nat) : Int)), (8, .int .i64 y.1), (9, .int .i64 j)]) (fun j => (sep (cel q [.string s, .bool false] 45) (sep (R0) (F)))) (fun j => j ≤ w) (fun j => w - j) (0) (Nat.zero_le _) ⟨rfl, rfl, rfl, rfl, congrArg (fun z : Nat => some (Value.int .i64 (z : Int))) (Nat.mul_one _).symm, rfl, rfl, trivial⟩ (by first | exact Ent.take | exact Ent.refl _) (fun j hj => ?_)
      refine J_seq ?_
      refine J_seq ?_
      refine J_region ?_
      refine L_v (opv_move rfl) rfl ?_
      refine L_v (opv_move rfl) rfl ?_
      refine L_v (opv_move rfl) rfl ?_
      first
        | refine L_v (opv_indexAddr rfl rfl (by omega)) rfl ?_
        | refine L_v (opv_indexAddrA rfl rfl (by omega)) rfl ?_
      refine L_v (opv_load rfl (Rd.of_take (S := R0) (hR.rd b o rfl y.1 (w : Int) 0 _ hv rfl))) rfl ?_
      refine L_v (opv_lss rfl rfl) rfl ?_
      refine L_nil ?_
      refine K_then ?_
      refine J_cond rfl (fun h3 => ?_) (fun h3 => ?_)
      · obtain ⟨hb1, hb2⟩ := pbnd hlt (show j < w by omega) (show y.2.2 + w ≤ 32 by omega)
        refine J_skip ?_
        refine K_then ?_
        refine J_seq ?_
        refine J_block ?_
        refine J_region ?_
        refine L_v (opv_move rfl) rfl ?_
        refine L_v ((opv_mul64 rfl rfl (by omega)).as (v' := .int .i64 ((y.2.1 * 2 ^ (j + 1) : Nat) : Int)) (congrArg (Value.int .i64) (by omega))) rfl ?_
        refine L_v (opv_assign rfl) rfl ?_
        refine L_nil ?_
        refine K_block ?_
        refine K_then ?_
        refine J_region ?_
        refine L_v (opv_move rfl) rfl ?_
        first
          | refine L_v (opv_add64 rfl rfl (by omega)) rfl ?_
          | refine L_v (opv_addS rfl rfl (by omega)) rfl ?_
          | refine L_v (opv_add rfl rfl) rfl ?_
        refine L_v (opv_assign rfl) rfl ?_
        refine L_nil ?_
        exact K_loop (j + 1) (by omega) (by omega) ⟨rfl, rfl, rfl, rfl, rfl, rfl, rfl, trivial⟩ (by first | exact Ent.take | exact Ent.refl _)
      · have hjw0 : j = w := by omega
        have hgj : y.2.1 * 2 ^ j + k < 2 ^ (y.2.2 + w) := by rw [hjw0]; exact hgr
        refine J_exit ?_
        refine K_then_exit ?_
        refine K_then_exit ?_
        refine K_block_here ?_
        refine K_then ?_
        refine J_region ?_
        refine L_v (opv_move rfl) rfl ?_
        refine L_v (opv_move rfl) rfl ?_
        refine L_v (opv_move rfl) rfl ?_
        first
          | refine L_v (opv_indexAddr rfl rfl (by omega)) rfl ?_
          | refine L_v (opv_indexAddrA rfl rfl (by omega)) rfl ?_
        first
          | refine L_v (opv_load rfl (Rd.of_take (S := R0) (hL.rd b2 o2 rfl y.1 u 0 _ hu rfl))) rfl ?_
          | refine L_v (opv_load rfl (Rd.of_take (S := R0) (hL.rd b2 o2 rfl y.1 (k : Int) 0 _ hu rfl))) rfl ?_
        refine L_v ((opv_add64 rfl rfl (by omega)).as (v' := .int .i64 ((y.2.1 * 2 ^ j + k : Nat) : Int)) (congrArg (Value.int .i64) (by omega))) rfl ?_
        refine L_v (opv_assign rfl) rfl ?_
        refine L_nil ?_
        refine K_block ?_
        refine K_then ?_
        refine J_region ?_
        refine L_v (opv_move rfl) rfl ?_
        first
          | refine L_v (opv_add64 rfl rfl (by omega)) rfl ?_
          | refine L_v (opv_addS rfl rfl (by omega)) rfl ?_
          | refine L_v (opv_add rfl rfl) rfl ?_
        refine L_v (opv_assign rfl) rfl ?_
        refine L_nil ?_
        have hjw : j = w := by omega
        subst hjw
        exact K_loop ((y.1 + 1, y.2.1 * 2 ^ j + k, y.2.2 + j)) ⟨by show y.1 + 1 ≤ _; omega, by show 8 * c ≤ 32; omega, by show y.2.1 * 2 ^ j + k < 2 ^ (y.2.2 + j); exact hgr, by rw [hpk, hpd]; rfl, by rw [hsd]; rfl⟩ (by show _ - (y.1 + 1) < _; omega) ⟨rfl, rfl, rfl, rfl, rfl, rfl, trivial⟩ (by first | exact Ent.take | exact Ent.refl _)
  · have he : y.1 = ls.length := by omega
    have hp32 : 2 ^ y.2.2 ≤ 4294967296 := Nat.le_trans (Nat.pow_le_pow_right (by decide) (show y.2.2 ≤ 32 by omega)) (by decide)
    refine J_exit ?_
    refine K_then_exit ?_
    refine K_then_exit ?_
    refine K_block_here ?_
    refine K_then ?_
    refine J_region ?_
    refine L_v (opv_move rfl) rfl ?_
    refine L_v (opv_move rfl) rfl ?_
    refine L_v (opv_move rfl) rfl ?_
    refine L_x rfl (opx_call0 (RWPut_any q s false ((y.2.1 : Nat) : Int) c ⟨hc1, hc4⟩ (by omega) hs) rfl rfl rfl) (fun _ _ => ?_)
    refine L_nil ?_
    have e0 : pack 0 ws ls = some y.2.1 := by
      rw [hpk, he, List.drop_length, ← hlen, List.drop_length]
      rfl
    have e1 : bitsS s false ws ls = putS s false y.2.1 c := by
      unfold bitsS
      rw [if_neg (by decide), if_neg (by omega), e0, hcw]
      show putS s false y.2.1 ((8 * c) / 8) = _
      rw [Nat.mul_div_cancel_left _ (by decide)]
    rw [e1]
    exact K_end0 rfl () trivial rfl Ent.take

end Go.Proofs.Ytdmlcnecildliaa
