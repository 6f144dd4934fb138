/- AddrBack: for every two triples of numbers the law answers true: what has an address is told by it, and unlike ones have unlike addresses. -/
import Derived.Test.YtkkoepnljofhpaaDoorAm
import Derived.Test.YtkkoepnljofhpaaDoorXc
import Derived.Test.YtkkoepnljofhpaaDoorAj
import Derived.Test.YtkkoepnljofhpaaDoorTie
import Derived.Test.YtkkoepnljofhpaaDoorCards
import Derived.Test.YtkkoepnljofhpaaDoorChecked
import Derived.ProofKit
import Derived.LaidMore
import Derived.OpenShut
import Derived.Stop.Joined
import Derived.SevenTiedAt
import Derived.Test.YtkkoepnljofhpaaDoorH
namespace Go.Proofs.YtkkoepnljofhpaaDoor
open Go.SLA
set_option maxRecDepth 100000
set_option linter.unusedVariables false
set_option linter.unusedSimpArgs false
attribute [local irreducible] J L K QL Rg FSpec OpV OpX Rd Back

theorem lnk_in {n : Int} (h : (lnk n).2 = 0) : ∃ m : Nat, n = (m : Int) ∧ 1 ≤ m ∧ m ≤ 65535 ∧ lnk n = ([3, 0, 0, 0, m / 256 % 256, m % 256], 0) := by
  by_cases hc : 1 ≤ n ∧ n ≤ 65535
  · obtain ⟨m, rfl⟩ := nat_of (n := n) (by omega)
    exact ⟨m, rfl, by omega, by omega, by unfold lnk; rw [if_pos hc]; rfl⟩
  · unfold lnk at h; rw [if_neg hc] at h; cases h
theorem grp_in {n : Int} (h : (grp n).2 = 0) : ∃ m : Nat, n = (m : Int) ∧ 1 ≤ m ∧ m ≤ 65535 ∧ grp n = ([224, 224, m / 256 % 256, m % 256], 0) := by
  by_cases hc : 1 ≤ n ∧ n ≤ 65535
  · obtain ⟨m, rfl⟩ := nat_of (n := n) (by omega)
    exact ⟨m, rfl, by omega, by omega, by unfold grp; rw [if_pos hc]; rfl⟩
  · unfold grp at h; rw [if_neg hc] at h; cases h
theorem sou_in {n k : Int} (h : (sou n k).2 = 0) : ∃ m q : Nat, n = (m : Int) ∧ k = (q : Int) ∧ m ≤ 4095 ∧ q ≤ 1 ∧ sou n k = ([2, 0, 0, m / 256 % 256, m % 256, 32 * (q + 1)], 0) := by
  by_cases hc : 0 ≤ n ∧ n ≤ 4095 ∧ 0 ≤ k ∧ k ≤ 1
  · obtain ⟨m, rfl⟩ := nat_of (n := n) (by omega)
    obtain ⟨q, rfl⟩ := nat_of (n := k) (by omega)
    exact ⟨m, q, rfl, rfl, by omega, by omega, by unfold sou; rw [if_pos hc]; rfl⟩
  · unfold sou at h; rw [if_neg hc] at h; cases h
theorem prt_in {n k : Int} (h : (prt n k).2 = 0) : ∃ m q : Nat, n = (m : Int) ∧ k = (q : Int) ∧ m ≤ 4095 ∧ q ≤ 255 ∧ prt n k = ([10, m / 256 % 256, m % 256, q], 0) := by
  by_cases hc : 0 ≤ n ∧ n ≤ 4095 ∧ 0 ≤ k ∧ k ≤ 255
  · obtain ⟨m, rfl⟩ := nat_of (n := n) (by omega)
    obtain ⟨q, rfl⟩ := nat_of (n := k) (by omega)
    exact ⟨m, q, rfl, rfl, by omega, by omega, by unfold prt; rw [if_pos hc]; rfl⟩
  · unfold prt at h; rw [if_neg hc] at h; cases h
theorem VL_lnk {n : Int} (h : (lnk n).2 = 0) : FSpec Tryd.prog 21 #[ag (lnk n).1] emp (fun _ : Unit => True) (fun _ => .tuple #[.int .i64 n, .int .i64 0]) (fun _ => emp) := by
  obtain ⟨m, rfl, h1, h2, he⟩ := lnk_in h
  have hn : num2 (m / 256 % 256) (m % 256) = m := by unfold num2; omega
  have hs := VL_any 3 0 0 0 (m / 256 % 256) (m % 256) (bys6 (by omega))
  rw [vlP_yes (by rw [hn, he]), hn] at hs
  rw [he]; exact hs
theorem Of_lnk {n : Int} (h : (lnk n).2 = 0) : FSpec Tryd.prog 24 #[ag (lnk n).1] emp (fun _ : Unit => True) (fun _ => .tuple #[.agg [.int .i64 0, .int .i64 0].toArray, .int .i64 14]) (fun _ => emp) := by
  obtain ⟨m, rfl, h1, h2, he⟩ := lnk_in h
  have hs := Of_any 3 0 0 0 (m / 256 % 256) (m % 256) (bys6 (by omega))
  rw [ofP_no (fun hh => by
    obtain ⟨m', q', _, _, _, _, he'⟩ := sou_in (show (sou _ _).2 = 0 by rw [hh])
    rw [hh] at he'; simp at he')] at hs
  rw [he]; exact hs
theorem Of_sou {n k : Int} (h : (sou n k).2 = 0) : FSpec Tryd.prog 24 #[ag (sou n k).1] emp (fun _ : Unit => True) (fun _ => .tuple #[.agg [.int .i64 n, .int .i64 k].toArray, .int .i64 0]) (fun _ => emp) := by
  obtain ⟨m, q, rfl, rfl, h1, h2, he⟩ := sou_in h
  have hn : num2 (m / 256 % 256) (m % 256) = m := by unfold num2; omega
  have hk : ((32 * (q + 1) / 32 : Nat) : Int) - 1 = (q : Int) := by omega
  have hs := Of_any 2 0 0 (m / 256 % 256) (m % 256) (32 * (q + 1)) (bys6 (by omega))
  rw [ofP_yes (by rw [hn, hk, he]), hn, hk] at hs
  rw [he]; exact hs
theorem VL_sou {n k : Int} (h : (sou n k).2 = 0) : FSpec Tryd.prog 21 #[ag (sou n k).1] emp (fun _ : Unit => True) (fun _ => .tuple #[.int .i64 0, .int .i64 14]) (fun _ => emp) := by
  obtain ⟨m, q, rfl, rfl, h1, h2, he⟩ := sou_in h
  have hs := VL_any 2 0 0 (m / 256 % 256) (m % 256) (32 * (q + 1)) (bys6 (by omega))
  rw [vlP_no (fun hh => by
    obtain ⟨m', _, _, _, he'⟩ := lnk_in (show (lnk _).2 = 0 by rw [hh])
    rw [hh] at he'; simp at he')] at hs
  rw [he]; exact hs
theorem Whose_prt {n k : Int} (h : (prt n k).2 = 0) : FSpec Tryd.prog 26 #[ag (prt n k).1] emp (fun _ : Unit => True) (fun _ => .tuple #[.int .i64 n, .int .i64 k, .int .i64 0, .int .i64 0]) (fun _ => emp) := by
  obtain ⟨m, q, rfl, rfl, h1, h2, he⟩ := prt_in h
  have hn : num2 (m / 256 % 256) (m % 256) = m := by unfold num2; omega
  have hs := Whose_any 10 (m / 256 % 256) (m % 256) q (bys4 (by omega))
  rw [whP_1 (by rw [hn, he]), hn] at hs
  rw [he]; exact hs
theorem Whose_grp {n : Int} (h : (grp n).2 = 0) : FSpec Tryd.prog 26 #[ag (grp n).1] emp (fun _ : Unit => True) (fun _ => .tuple #[.int .i64 0, .int .i64 0, .int .i64 n, .int .i64 0]) (fun _ => emp) := by
  obtain ⟨m, rfl, h1, h2, he⟩ := grp_in h
  have hn : num2 (m / 256 % 256) (m % 256) = m := by unfold num2; omega
  have hs := Whose_any 224 224 (m / 256 % 256) (m % 256) (bys4 (by omega))
  rw [whP_2 (fun hh => by
    obtain ⟨m', q', _, _, _, _, he'⟩ := prt_in (show (prt _ _).2 = 0 by rw [hh])
    rw [hh] at he'; simp at he') (by rw [hn, he]), hn] at hs
  rw [he]; exact hs
theorem lnk_eq {n m : Int} (h1 : (lnk n).2 = 0) (h2 : (lnk m).2 = 0) : (lnk n).1 = (lnk m).1 ↔ n = m := by
  obtain ⟨a, rfl, _, _, e1⟩ := lnk_in h1
  obtain ⟨b, rfl, _, _, e2⟩ := lnk_in h2
  rw [e1, e2]
  simp only [List.cons.injEq, and_true, true_and]
  omega
theorem sou_eq {n k m q : Int} (h1 : (sou n k).2 = 0) (h2 : (sou m q).2 = 0) : (sou n k).1 = (sou m q).1 ↔ n = m ∧ k = q := by
  obtain ⟨a, a', rfl, rfl, _, _, e1⟩ := sou_in h1
  obtain ⟨b, b', rfl, rfl, _, _, e2⟩ := sou_in h2
  rw [e1, e2]
  simp only [List.cons.injEq, and_true, true_and]
  omega
theorem ne_b {p q : Prop} [Decidable p] [Decidable q] (h : p ↔ q) : Value.bool (decide p != decide q) = .bool false := by simp [decide_eq_decide.2 h]
theorem lne {n m : Int} (h1 : (lnk n).2 = 0) (h2 : (lnk m).2 = 0) : Value.bool (decide ((lnk n).1 = (lnk m).1) != decide (n = m)) = .bool false := ne_b (lnk_eq h1 h2)
theorem sne_t {n k m q : Int} (h1 : (sou n k).2 = 0) (h2 : (sou m q).2 = 0) (h : n = m) : Value.bool (decide ((sou n k).1 = (sou m q).1) != decide (k = q)) = .bool false := ne_b ((sou_eq h1 h2).trans ⟨fun e => e.2, fun e => ⟨h, e⟩⟩)
theorem sne_f {n k m q : Int} (h1 : (sou n k).2 = 0) (h2 : (sou m q).2 = 0) (h : ¬ n = m) : Value.bool (decide ((sou n k).1 = (sou m q).1) != false) = .bool false := by
  have : ¬ (sou n k).1 = (sou m q).1 := fun e => h ((sou_eq h1 h2).1 e).1
  simp [this]
attribute [local irreducible] lnk sou prt grp

set_option maxHeartbeats 1000000 in
theorem AddrBack_spec (W : World) (hW : W.cell? (ad 7 15) = some (.int .u8 4)) (x0 x1 x2 y0 y1 y2 : Int) : FSpec Tryd.prog 5 #[.agg [.int .i64 x0, .int .i64 x1, .int .i64 x2].toArray, .agg [.int .i64 y0, .int .i64 y1, .int .i64 y2].toArray] (old W) (fun _ : Unit => True) (fun _ => .bool true) (fun _ => old W) := by
  refine FSpec.enter' Tryd.func5 rfl Tryd.ntmps5 rfl fun σ F => ?_
  refine J_seq ?_
  refine J_region ?_
  refine L_x rfl (opx_box (l := [.int .i64 x0, .int .i64 x1, .int .i64 x2]) rfl rfl) (fun b2 _ => ?_)
  refine L_x rfl (opx_box (l := [.int .i64 y0, .int .i64 y1, .int .i64 y2]) rfl rfl) (fun b3 _ => ?_)
  refine L_v (opv_assign rfl) rfl ?_
  refine L_nil ?_
  refine K_then ?_
  refine J_seq ?_
  refine J_region ?_
  refine L_v ((opv_indexAddrA rfl rfl (by decide)).as (v' := .pointer (some (ad b2 0))) rfl) rfl ?_
  refine L_v (opv_load (v := .int .i64 x0) rfl (Rd.look rfl)) rfl ?_
  refine L_x rfl (opx_call0 (Link_any x0) rfl rfl rfl) (fun _ _ => ?_)
  refine L_emp ?_
  refine L_v (opv_move rfl) rfl ?_
  refine L_v (opv_extract (v := ag (lnk x0).1) rfl rfl) rfl ?_
  refine L_v (opv_extract (v := .int .i64 (lnk x0).2) rfl rfl) rfl ?_
  refine L_x rfl (opx_alloc rfl) (fun b5 _ => ?_)
  refine L_x rfl (opx_storeW (m := 6) rfl rfl (enc8_len (lnk_adr x0).1) (enc8_one _) rfl) (fun _ _ => ?_)
  refine L_v (opv_assign rfl) rfl ?_
  refine L_nil ?_
  refine K_then ?_
  refine J_seq ?_
  refine J_region ?_
  refine L_v ((opv_indexAddrA rfl rfl (by decide)).as (v' := .pointer (some (ad b3 0))) rfl) rfl ?_
  refine L_v (opv_load (v := .int .i64 y0) rfl (Rd.look rfl)) rfl ?_
  refine L_x rfl (opx_call0 (Link_any y0) rfl rfl rfl) (fun _ _ => ?_)
  refine L_emp ?_
  refine L_v (opv_move rfl) rfl ?_
  refine L_v (opv_extract (v := ag (lnk y0).1) rfl rfl) rfl ?_
  refine L_v (opv_extract (v := .int .i64 (lnk y0).2) rfl rfl) rfl ?_
  refine L_x rfl (opx_alloc rfl) (fun b7 _ => ?_)
  refine L_x rfl (opx_storeW (m := 6) rfl rfl (enc8_len (lnk_adr y0).1) (enc8_one _) rfl) (fun _ _ => ?_)
  refine L_v (opv_assign rfl) rfl ?_
  refine L_nil ?_
  refine K_then ?_
  refine J_cut (X := Unit) (fun _ => [(2, .pointer (some (ad b2 0))), (3, .pointer (some (ad b3 0)))]) (fun _ => (sep (cel b2 [.int .i64 x0, .int .i64 x1, .int .i64 x2] 54) (sep (cel b3 [.int .i64 y0, .int .i64 y1, .int .i64 y2] 54) (sep (old W) (F))))) (fun _ => True) ?_ (fun _ _ => ?_)
  · refine J_seq ?_
    refine J_region ?_
    refine L_v (opv_move rfl) rfl ?_
    first
      | refine L_v (opv_eql rfl rfl) rfl ?_
      | refine L_v (opv_eqlS rfl rfl) rfl ?_
      | refine L_v (opv_eqlNil rfl rfl) rfl ?_
      | refine L_v (opv_eqlB rfl rfl) rfl ?_
    refine L_nil ?_
    refine K_then ?_
    refine J_cond rfl (fun h1 => ?_) (fun h1 => ?_)
    · refine J_seq ?_
      refine J_region ?_
      refine L_v (opv_loadW rfl (enc8_len (lnk_adr x0).1)) rfl ?_
      refine L_x rfl (opx_call0 (VL_lnk (by assumption)) rfl rfl rfl) (fun _ _ => ?_)
      refine L_emp ?_
      refine L_v (opv_move rfl) rfl ?_
      refine L_v (opv_extract rfl rfl) rfl ?_
      refine L_v (opv_extract rfl rfl) rfl ?_
      refine L_v (opv_assign rfl) rfl ?_
      refine L_v (opv_assign rfl) rfl ?_
      refine L_nil ?_
      refine K_then ?_
      refine J_seq ?_
      refine J_region ?_
      refine L_v (opv_loadW rfl (enc8_len (lnk_adr x0).1)) rfl ?_
      refine L_x rfl (opx_call0 (Of_lnk (by assumption)) rfl rfl rfl) (fun _ _ => ?_)
      refine L_emp ?_
      refine L_v (opv_move rfl) rfl ?_
      refine L_v (opv_extract (v := .agg [.int .i64 0, .int .i64 0].toArray) rfl rfl) rfl ?_
      refine L_v (opv_extract rfl rfl) rfl ?_
      refine L_x rfl (opx_alloc rfl) (fun b11 _ => ?_)
      refine L_x rfl (opx_store rfl rfl rfl (by simp [Value.oneCell'])) (fun _ _ => ?_)
      refine L_v (opv_assign rfl) rfl ?_
      refine L_nil ?_
      refine K_then ?_
      refine J_seq ?_
      refine J_quiet Tryd.mixed (by kernel_rfl) ?_
      refine Q_v (opv_move rfl) rfl ?_
      refine Q_v ((opv_neq rfl rfl).bool_f (by simp)) rfl ?_
      refine Q_v (opv_move rfl) rfl ?_
      refine Q_gon rfl rfl rfl ?_
      refine Q_v (opv_move rfl) rfl ?_
      refine Q_gon rfl rfl rfl ?_
      refine Q_v ((opv_indexAddrA rfl rfl (by decide)).as (v' := .pointer (some (ad b2 0))) rfl) rfl ?_
      refine Q_gon rfl rfl rfl ?_
      refine Q_v (opv_load (v := .int .i64 x0) rfl (Rd.look rfl)) rfl ?_
      refine Q_gon rfl rfl rfl ?_
      refine Q_v ((opv_neq rfl rfl).bool_f (by simp)) rfl ?_
      first
        | refine Q_v (opv_pick_tt rfl rfl) rfl ?_
        | refine Q_v (opv_pick_ff rfl rfl) rfl ?_
        | refine Q_v (opv_pick rfl rfl rfl) rfl ?_
      refine Q_v (opv_move rfl) rfl ?_
      refine Q_gon rfl rfl rfl ?_
      refine Q_v (opv_move rfl) rfl ?_
      refine Q_gon rfl rfl rfl ?_
      refine Q_v ((opv_neq rfl rfl).bool_f (by simp)) rfl ?_
      first
        | refine Q_v (opv_pick_tt rfl rfl) rfl ?_
        | refine Q_v (opv_pick_ff rfl rfl) rfl ?_
        | refine Q_v (opv_pick rfl rfl rfl) rfl ?_
      refine Q_v (opv_move rfl) rfl ?_
      refine Q_gon rfl rfl rfl ?_
      refine Q_v (opv_move rfl) rfl ?_
      refine Q_gon rfl rfl rfl ?_
      first
        | refine Q_v (opv_eql rfl rfl) rfl ?_
        | refine Q_v (opv_eqlS rfl rfl) rfl ?_
        | refine Q_v (opv_eqlNil rfl rfl) rfl ?_
        | refine Q_v (opv_eqlB rfl rfl) rfl ?_
      refine Q_gon rfl rfl rfl ?_
      refine Q_v (opv_move rfl) rfl ?_
      refine Q_gt rfl rfl (fun h2 => ?_) (fun h2 => ?_) (fun _ h => by cases h; rfl)
      · refine Q_v (opv_loadW rfl (enc8_len (lnk_adr x0).1)) rfl ?_
        refine Q_gt_on h2 rfl rfl ?_
        refine Q_v (opv_loadW rfl (enc8_len (lnk_adr y0).1)) rfl ?_
        refine Q_gt_on h2 rfl rfl ?_
        refine Q_v ((opv_eqlF rfl rfl (shape6 (lnk_adr x0).1) (shape6 (lnk_adr y0).1)).as eq8) rfl ?_
        refine Q_gt_on h2 rfl rfl ?_
        refine Q_v ((opv_indexAddrA rfl rfl (by decide)).as (v' := .pointer (some (ad b2 0))) rfl) rfl ?_
        refine Q_gt_on h2 rfl rfl ?_
        refine Q_v (opv_load (v := .int .i64 x0) rfl (Rd.look rfl)) rfl ?_
        refine Q_gt_on h2 rfl rfl ?_
        refine Q_v ((opv_indexAddrA rfl rfl (by decide)).as (v' := .pointer (some (ad b3 0))) rfl) rfl ?_
        refine Q_gt_on h2 rfl rfl ?_
        refine Q_v (opv_load (v := .int .i64 y0) rfl (Rd.look rfl)) rfl ?_
        refine Q_gt_on h2 rfl rfl ?_
        first
          | refine Q_v (opv_eql rfl rfl) rfl ?_
          | refine Q_v (opv_eqlS rfl rfl) rfl ?_
          | refine Q_v (opv_eqlNil rfl rfl) rfl ?_
          | refine Q_v (opv_eqlB rfl rfl) rfl ?_
        refine Q_gt_on h2 rfl rfl ?_
        refine Q_v ((opv_neqB rfl rfl).as (lne (by assumption) (by assumption))) rfl ?_
        refine Q_gon rfl rfl rfl ?_
        refine Q_v (opv_pick_t rfl h2 rfl) rfl ?_
        first
          | refine Q_v (opv_pick_tt rfl rfl) rfl ?_
          | refine Q_v (opv_pick_ff rfl rfl) rfl ?_
          | refine Q_v (opv_pick rfl rfl rfl) rfl ?_
        refine QL_nil ?_
        refine K_then ?_
        refine J_cond_false rfl ?_
        refine J_skip ?_
        exact K_cut () (by trivial) ⟨rfl, rfl, trivial⟩ Ent.take
      · refine Q_gt_off h2 rfl rfl ?_ (fun _ h => by cases h; rfl)
        refine Q_gt_off h2 rfl rfl ?_ (fun _ h => by cases h; rfl)
        refine Q_gt_off h2 rfl rfl ?_ (fun _ h => by cases h; rfl)
        refine Q_gt_off h2 rfl rfl ?_ (fun _ h => by cases h; rfl)
        refine Q_gt_off h2 rfl rfl ?_ (fun _ h => by cases h; rfl)
        refine Q_gt_off h2 rfl rfl ?_ (fun _ h => by cases h; rfl)
        refine Q_gt_off h2 rfl rfl ?_ (fun _ h => by cases h; rfl)
        refine Q_gt_off h2 rfl rfl ?_ (fun _ h => by cases h; rfl)
        refine Q_gon rfl rfl rfl ?_
        refine Q_v (opv_pick_f rfl h2 rfl) rfl ?_
        first
          | refine Q_v (opv_pick_tt rfl rfl) rfl ?_
          | refine Q_v (opv_pick_ff rfl rfl) rfl ?_
          | refine Q_v (opv_pick rfl rfl rfl) rfl ?_
        refine QL_nil ?_
        refine K_then ?_
        refine J_cond_false rfl ?_
        refine J_skip ?_
        exact K_cut () (by trivial) ⟨rfl, rfl, trivial⟩ Ent.take
    · refine J_skip ?_
      exact K_cut () (by trivial) ⟨rfl, rfl, trivial⟩ Ent.take
  · refine J_seq ?_
    refine J_region ?_
    refine L_v ((opv_indexAddrA rfl rfl (by decide)).as (v' := .pointer (some (ad b2 1))) rfl) rfl ?_
    refine L_v (opv_load (v := .int .i64 x1) rfl (Rd.look rfl)) rfl ?_
    refine L_v ((opv_indexAddrA rfl rfl (by decide)).as (v' := .pointer (some (ad b2 2))) rfl) rfl ?_
    refine L_v (opv_load (v := .int .i64 x2) rfl (Rd.look rfl)) rfl ?_
    refine L_v (opv_build rfl) rfl ?_
    refine L_x rfl (opx_call0 (Source_any x1 x2) rfl rfl rfl) (fun _ _ => ?_)
    refine L_emp ?_
    refine L_v (opv_move rfl) rfl ?_
    refine L_v (opv_extract (v := ag (sou x1 x2).1) rfl rfl) rfl ?_
    refine L_v (opv_extract (v := .int .i64 (sou x1 x2).2) rfl rfl) rfl ?_
    refine L_x rfl (opx_alloc rfl) (fun b13 _ => ?_)
    refine L_x rfl (opx_storeW (m := 6) rfl rfl (enc8_len (sou_adr x1 x2).1) (enc8_one _) rfl) (fun _ _ => ?_)
    refine L_v (opv_assign rfl) rfl ?_
    refine L_nil ?_
    refine K_then ?_
    refine J_seq ?_
    refine J_region ?_
    refine L_v ((opv_indexAddrA rfl rfl (by decide)).as (v' := .pointer (some (ad b3 1))) rfl) rfl ?_
    refine L_v (opv_load (v := .int .i64 y1) rfl (Rd.look rfl)) rfl ?_
    refine L_v ((opv_indexAddrA rfl rfl (by decide)).as (v' := .pointer (some (ad b3 2))) rfl) rfl ?_
    refine L_v (opv_load (v := .int .i64 y2) rfl (Rd.look rfl)) rfl ?_
    refine L_v (opv_build rfl) rfl ?_
    refine L_x rfl (opx_call0 (Source_any y1 y2) rfl rfl rfl) (fun _ _ => ?_)
    refine L_emp ?_
    refine L_v (opv_move rfl) rfl ?_
    refine L_v (opv_extract (v := ag (sou y1 y2).1) rfl rfl) rfl ?_
    refine L_v (opv_extract (v := .int .i64 (sou y1 y2).2) rfl rfl) rfl ?_
    refine L_x rfl (opx_alloc rfl) (fun b14 _ => ?_)
    refine L_x rfl (opx_storeW (m := 6) rfl rfl (enc8_len (sou_adr y1 y2).1) (enc8_one _) rfl) (fun _ _ => ?_)
    refine L_v (opv_assign rfl) rfl ?_
    refine L_nil ?_
    refine K_then ?_
    refine J_cut (X := Unit) (fun _ => [(2, .pointer (some (ad b2 0))), (3, .pointer (some (ad b3 0)))]) (fun _ => (sep (cel b2 [.int .i64 x0, .int .i64 x1, .int .i64 x2] 54) (sep (cel b3 [.int .i64 y0, .int .i64 y1, .int .i64 y2] 54) (sep (old W) (F))))) (fun _ => True) ?_ (fun _ _ => ?_)
    · refine J_seq ?_
      refine J_region ?_
      refine L_v (opv_move rfl) rfl ?_
      first
        | refine L_v (opv_eql rfl rfl) rfl ?_
        | refine L_v (opv_eqlS rfl rfl) rfl ?_
        | refine L_v (opv_eqlNil rfl rfl) rfl ?_
        | refine L_v (opv_eqlB rfl rfl) rfl ?_
      refine L_nil ?_
      refine K_then ?_
      refine J_cond rfl (fun h3 => ?_) (fun h3 => ?_)
      · refine J_seq ?_
        refine J_region ?_
        refine L_v (opv_loadW rfl (enc8_len (sou_adr x1 x2).1)) rfl ?_
        refine L_x rfl (opx_call0 (Of_sou (by assumption)) rfl rfl rfl) (fun _ _ => ?_)
        refine L_emp ?_
        refine L_v (opv_move rfl) rfl ?_
        refine L_v (opv_extract (v := .agg [.int .i64 x1, .int .i64 x2].toArray) rfl rfl) rfl ?_
        refine L_v (opv_extract rfl rfl) rfl ?_
        refine L_x rfl (opx_alloc rfl) (fun b15 _ => ?_)
        refine L_x rfl (opx_store rfl rfl rfl (by simp [Value.oneCell'])) (fun _ _ => ?_)
        refine L_v (opv_assign rfl) rfl ?_
        refine L_nil ?_
        refine K_then ?_
        refine J_seq ?_
        refine J_region ?_
        refine L_v (opv_loadW rfl (enc8_len (sou_adr x1 x2).1)) rfl ?_
        refine L_x rfl (opx_call0 (VL_sou (by assumption)) rfl rfl rfl) (fun _ _ => ?_)
        refine L_emp ?_
        refine L_v (opv_move rfl) rfl ?_
        refine L_v (opv_extract rfl rfl) rfl ?_
        refine L_v (opv_extract rfl rfl) rfl ?_
        refine L_v (opv_assign rfl) rfl ?_
        refine L_v (opv_assign rfl) rfl ?_
        refine L_nil ?_
        refine K_then ?_
        refine J_seq ?_
        refine J_quiet Tryd.mixed (by kernel_rfl) ?_
        refine Q_v (opv_move rfl) rfl ?_
        refine Q_v ((opv_neq rfl rfl).bool_f (by simp)) rfl ?_
        refine Q_v (opv_move rfl) rfl ?_
        refine Q_gon rfl rfl rfl ?_
        refine Q_v (opv_loadS rfl) rfl ?_
        refine Q_gon rfl rfl rfl ?_
        refine Q_v ((opv_indexAddrA rfl rfl (by decide)).as (v' := .pointer (some (ad b2 1))) rfl) rfl ?_
        refine Q_gon rfl rfl rfl ?_
        refine Q_v (opv_load (v := .int .i64 x1) rfl (Rd.look rfl)) rfl ?_
        refine Q_gon rfl rfl rfl ?_
        refine Q_v ((opv_indexAddrA rfl rfl (by decide)).as (v' := .pointer (some (ad b2 2))) rfl) rfl ?_
        refine Q_gon rfl rfl rfl ?_
        refine Q_v (opv_load (v := .int .i64 x2) rfl (Rd.look rfl)) rfl ?_
        refine Q_gon rfl rfl rfl ?_
        refine Q_v (opv_build rfl) rfl ?_
        refine Q_gon rfl rfl rfl ?_
        refine Q_v ((opv_neqF rfl rfl (by simp [Shape, CK.sh]) (by simp [Shape, CK.sh])).bool_f (fun n => n rfl)) rfl ?_
        first
          | refine Q_v (opv_pick_tt rfl rfl) rfl ?_
          | refine Q_v (opv_pick_ff rfl rfl) rfl ?_
          | refine Q_v (opv_pick rfl rfl rfl) rfl ?_
        refine Q_v (opv_move rfl) rfl ?_
        refine Q_gon rfl rfl rfl ?_
        refine Q_v (opv_move rfl) rfl ?_
        refine Q_gon rfl rfl rfl ?_
        refine Q_v ((opv_neq rfl rfl).bool_f (by simp)) rfl ?_
        first
          | refine Q_v (opv_pick_tt rfl rfl) rfl ?_
          | refine Q_v (opv_pick_ff rfl rfl) rfl ?_
          | refine Q_v (opv_pick rfl rfl rfl) rfl ?_
        refine Q_v (opv_move rfl) rfl ?_
        refine Q_gon rfl rfl rfl ?_
        refine Q_v (opv_move rfl) rfl ?_
        refine Q_gon rfl rfl rfl ?_
        first
          | refine Q_v (opv_eql rfl rfl) rfl ?_
          | refine Q_v (opv_eqlS rfl rfl) rfl ?_
          | refine Q_v (opv_eqlNil rfl rfl) rfl ?_
          | refine Q_v (opv_eqlB rfl rfl) rfl ?_
        refine Q_gon rfl rfl rfl ?_
        refine Q_v (opv_move rfl) rfl ?_
        refine Q_gt rfl rfl (fun h4 => ?_) (fun h4 => ?_) (fun _ h => by cases h; rfl)
        · refine Q_v (opv_loadW rfl (enc8_len (sou_adr x1 x2).1)) rfl ?_
          refine Q_gt_on h4 rfl rfl ?_
          refine Q_v (opv_loadW rfl (enc8_len (sou_adr y1 y2).1)) rfl ?_
          refine Q_gt_on h4 rfl rfl ?_
          refine Q_v ((opv_eqlF rfl rfl (shape6 (sou_adr x1 x2).1) (shape6 (sou_adr y1 y2).1)).as eq8) rfl ?_
          refine Q_gt_on h4 rfl rfl ?_
          refine Q_v ((opv_indexAddrA rfl rfl (by decide)).as (v' := .pointer (some (ad b2 1))) rfl) rfl ?_
          refine Q_gt_on h4 rfl rfl ?_
          refine Q_v (opv_load (v := .int .i64 x1) rfl (Rd.look rfl)) rfl ?_
          refine Q_gt_on h4 rfl rfl ?_
          refine Q_v ((opv_indexAddrA rfl rfl (by decide)).as (v' := .pointer (some (ad b3 1))) rfl) rfl ?_
          refine Q_gt_on h4 rfl rfl ?_
          refine Q_v (opv_load (v := .int .i64 y1) rfl (Rd.look rfl)) rfl ?_
          refine Q_gt_on h4 rfl rfl ?_
          first
            | refine Q_v (opv_eql rfl rfl) rfl ?_
            | refine Q_v (opv_eqlS rfl rfl) rfl ?_
            | refine Q_v (opv_eqlNil rfl rfl) rfl ?_
            | refine Q_v (opv_eqlB rfl rfl) rfl ?_
          refine Q_gt_on h4 rfl rfl ?_
          refine Q_v (opv_move rfl) rfl ?_
          refine Q_gt rfl rfl (fun h5 => ?_) (fun h5 => ?_) (fun _ h => by cases h; rfl)
          · refine Q_v ((opv_indexAddrA rfl rfl (by decide)).as (v' := .pointer (some (ad b2 2))) rfl) rfl ?_
            refine Q_gt_on h5 rfl rfl ?_
            refine Q_v (opv_load (v := .int .i64 x2) rfl (Rd.look rfl)) rfl ?_
            refine Q_gt_on h5 rfl rfl ?_
            refine Q_v ((opv_indexAddrA rfl rfl (by decide)).as (v' := .pointer (some (ad b3 2))) rfl) rfl ?_
            refine Q_gt_on h5 rfl rfl ?_
            refine Q_v (opv_load (v := .int .i64 y2) rfl (Rd.look rfl)) rfl ?_
            refine Q_gt_on h5 rfl rfl ?_
            first
              | refine Q_v (opv_eql rfl rfl) rfl ?_
              | refine Q_v (opv_eqlS rfl rfl) rfl ?_
              | refine Q_v (opv_eqlNil rfl rfl) rfl ?_
              | refine Q_v (opv_eqlB rfl rfl) rfl ?_
            refine Q_gt_on h4 rfl rfl ?_
            refine Q_v (opv_pick_t rfl h5 rfl) rfl ?_
            refine Q_gt_on h4 rfl rfl ?_
            first
              | refine Q_v ((opv_neqB rfl rfl).as (sne_t (by assumption) (by assumption) (by assumption))) rfl ?_
              | refine Q_v ((opv_neqB rfl rfl).as (sne_f (by assumption) (by assumption) (by assumption))) rfl ?_
            refine Q_gon rfl rfl rfl ?_
            refine Q_v (opv_pick_t rfl h4 rfl) rfl ?_
            first
              | refine Q_v (opv_pick_tt rfl rfl) rfl ?_
              | refine Q_v (opv_pick_ff rfl rfl) rfl ?_
              | refine Q_v (opv_pick rfl rfl rfl) rfl ?_
            refine QL_nil ?_
            refine K_then ?_
            refine J_cond_false rfl ?_
            refine J_skip ?_
            exact K_cut () (by trivial) ⟨rfl, rfl, trivial⟩ Ent.take
          · refine Q_gt_off h5 rfl rfl ?_ (fun _ h => by cases h; rfl)
            refine Q_gt_off h5 rfl rfl ?_ (fun _ h => by cases h; rfl)
            refine Q_gt_off h5 rfl rfl ?_ (fun _ h => by cases h; rfl)
            refine Q_gt_off h5 rfl rfl ?_ (fun _ h => by cases h; rfl)
            refine Q_gt_on h4 rfl rfl ?_
            refine Q_v (opv_pick_f rfl h5 rfl) rfl ?_
            refine Q_gt_on h4 rfl rfl ?_
            first
              | refine Q_v ((opv_neqB rfl rfl).as (sne_t (by assumption) (by assumption) (by assumption))) rfl ?_
              | refine Q_v ((opv_neqB rfl rfl).as (sne_f (by assumption) (by assumption) (by assumption))) rfl ?_
            refine Q_gon rfl rfl rfl ?_
            refine Q_v (opv_pick_t rfl h4 rfl) rfl ?_
            first
              | refine Q_v (opv_pick_tt rfl rfl) rfl ?_
              | refine Q_v (opv_pick_ff rfl rfl) rfl ?_
              | refine Q_v (opv_pick rfl rfl rfl) rfl ?_
            refine QL_nil ?_
            refine K_then ?_
            refine J_cond_false rfl ?_
            refine J_skip ?_
            exact K_cut () (by trivial) ⟨rfl, rfl, trivial⟩ Ent.take
        · refine Q_gt_off h4 rfl rfl ?_ (fun _ h => by cases h; rfl)
          refine Q_gt_off h4 rfl rfl ?_ (fun _ h => by cases h; rfl)
          refine Q_gt_off h4 rfl rfl ?_ (fun _ h => by cases h; rfl)
          refine Q_gt_off h4 rfl rfl ?_ (fun _ h => by cases h; rfl)
          refine Q_gt_off h4 rfl rfl ?_ (fun _ h => by cases h; rfl)
          refine Q_gt_off h4 rfl rfl ?_ (fun _ h => by cases h; rfl)
          refine Q_gt_off h4 rfl rfl ?_ (fun _ h => by cases h; rfl)
          refine Q_gt_offU h4 rfl rfl rfl ?_
          refine Q_gU rfl rfl rfl ?_
          refine Q_gU rfl rfl rfl ?_
          refine Q_gU rfl rfl rfl ?_
          refine Q_gU rfl rfl rfl ?_
          refine Q_gU rfl rfl rfl ?_
          refine Q_gt_off h4 rfl rfl ?_ (fun _ h => by cases h; rfl)
          refine Q_gt_off h4 rfl rfl ?_ (fun _ h => by cases h; rfl)
          refine Q_gon rfl rfl rfl ?_
          refine Q_v (opv_pick_f rfl h4 rfl) rfl ?_
          first
            | refine Q_v (opv_pick_tt rfl rfl) rfl ?_
            | refine Q_v (opv_pick_ff rfl rfl) rfl ?_
            | refine Q_v (opv_pick rfl rfl rfl) rfl ?_
          refine QL_nil ?_
          refine K_then ?_
          refine J_cond_false rfl ?_
          refine J_skip ?_
          exact K_cut () (by trivial) ⟨rfl, rfl, trivial⟩ Ent.take
      · refine J_skip ?_
        exact K_cut () (by trivial) ⟨rfl, rfl, trivial⟩ Ent.take
    · refine J_seq ?_
      refine J_region ?_
      refine L_v ((opv_indexAddrA rfl rfl (by decide)).as (v' := .pointer (some (ad b2 1))) rfl) rfl ?_
      refine L_v (opv_load (v := .int .i64 x1) rfl (Rd.look rfl)) rfl ?_
      refine L_v ((opv_indexAddrA rfl rfl (by decide)).as (v' := .pointer (some (ad b2 2))) rfl) rfl ?_
      refine L_v (opv_load (v := .int .i64 x2) rfl (Rd.look rfl)) rfl ?_
      refine L_x rfl (opx_call0 (Part_any x1 x2) rfl rfl rfl) (fun _ _ => ?_)
      refine L_emp ?_
      refine L_v (opv_move rfl) rfl ?_
      refine L_v (opv_extract (v := ag (prt x1 x2).1) rfl rfl) rfl ?_
      refine L_v (opv_extract (v := .int .i64 (prt x1 x2).2) rfl rfl) rfl ?_
      refine L_x rfl (opx_alloc rfl) (fun b19 _ => ?_)
      refine L_x rfl (opx_storeW (m := 4) rfl rfl (enc8_len (prt_adr x1 x2).1) (enc8_one _) rfl) (fun _ _ => ?_)
      refine L_v (opv_assign rfl) rfl ?_
      refine L_nil ?_
      refine K_then ?_
      refine J_cut (X := Unit) (fun _ => [(2, .pointer (some (ad b2 0))), (3, .pointer (some (ad b3 0)))]) (fun _ => (sep (cel b2 [.int .i64 x0, .int .i64 x1, .int .i64 x2] 54) (sep (cel b3 [.int .i64 y0, .int .i64 y1, .int .i64 y2] 54) (sep (old W) (F))))) (fun _ => True) ?_ (fun _ _ => ?_)
      · refine J_seq ?_
        refine J_region ?_
        refine L_v (opv_move rfl) rfl ?_
        first
          | refine L_v (opv_eql rfl rfl) rfl ?_
          | refine L_v (opv_eqlS rfl rfl) rfl ?_
          | refine L_v (opv_eqlNil rfl rfl) rfl ?_
          | refine L_v (opv_eqlB rfl rfl) rfl ?_
        refine L_nil ?_
        refine K_then ?_
        refine J_cond rfl (fun h6 => ?_) (fun h6 => ?_)
        · refine J_seq ?_
          refine J_region ?_
          refine L_v (opv_loadW rfl (enc8_len (prt_adr x1 x2).1)) rfl ?_
          refine L_x rfl (opx_call0 (Whose_prt (by assumption)) rfl rfl rfl) (fun _ _ => ?_)
          refine L_emp ?_
          refine L_v (opv_move rfl) rfl ?_
          refine L_v (opv_extract rfl rfl) rfl ?_
          refine L_v (opv_extract rfl rfl) rfl ?_
          refine L_v (opv_extract rfl rfl) rfl ?_
          refine L_v (opv_extract rfl rfl) rfl ?_
          refine L_v (opv_assign rfl) rfl ?_
          refine L_v (opv_assign rfl) rfl ?_
          refine L_v (opv_assign rfl) rfl ?_
          refine L_v (opv_assign rfl) rfl ?_
          refine L_nil ?_
          refine K_then ?_
          refine J_seq ?_
          refine J_region ?_
          refine L_v (opv_move rfl) rfl ?_
          refine L_v ((opv_indexAddrA rfl rfl (by decide)).as (v' := .pointer (some (ad b2 1))) rfl) rfl ?_
          refine L_v (opv_load (v := .int .i64 x1) rfl (Rd.look rfl)) rfl ?_
          refine L_v ((opv_neq rfl rfl).bool_f (by simp)) rfl ?_
          refine L_v (opv_move rfl) rfl ?_
          refine L_gon rfl rfl rfl ?_
          refine L_v (opv_move rfl) rfl ?_
          refine L_gon rfl rfl rfl ?_
          refine L_v ((opv_indexAddrA rfl rfl (by decide)).as (v' := .pointer (some (ad b2 2))) rfl) rfl ?_
          refine L_gon rfl rfl rfl ?_
          refine L_v (opv_load (v := .int .i64 x2) rfl (Rd.look rfl)) rfl ?_
          refine L_gon rfl rfl rfl ?_
          refine L_v ((opv_neq rfl rfl).bool_f (by simp)) rfl ?_
          first
            | refine L_v (opv_pick_tt rfl rfl) rfl ?_
            | refine L_v (opv_pick_ff rfl rfl) rfl ?_
            | refine L_v (opv_pick rfl rfl rfl) rfl ?_
          refine L_v (opv_move rfl) rfl ?_
          refine L_gon rfl rfl rfl ?_
          refine L_v (opv_move rfl) rfl ?_
          refine L_gon rfl rfl rfl ?_
          refine L_v ((opv_neq rfl rfl).bool_f (by simp)) rfl ?_
          first
            | refine L_v (opv_pick_tt rfl rfl) rfl ?_
            | refine L_v (opv_pick_ff rfl rfl) rfl ?_
            | refine L_v (opv_pick rfl rfl rfl) rfl ?_
          refine L_v (opv_move rfl) rfl ?_
          refine L_gon rfl rfl rfl ?_
          refine L_v (opv_move rfl) rfl ?_
          refine L_gon rfl rfl rfl ?_
          refine L_v ((opv_neq rfl rfl).bool_f (by simp)) rfl ?_
          first
            | refine L_v (opv_pick_tt rfl rfl) rfl ?_
            | refine L_v (opv_pick_ff rfl rfl) rfl ?_
            | refine L_v (opv_pick rfl rfl rfl) rfl ?_
          refine L_nil ?_
          refine K_then ?_
          refine J_cond_false rfl ?_
          refine J_skip ?_
          exact K_cut () (by trivial) ⟨rfl, rfl, trivial⟩ Ent.take
        · refine J_skip ?_
          exact K_cut () (by trivial) ⟨rfl, rfl, trivial⟩ Ent.take
      · refine J_seq ?_
        refine J_region ?_
        refine L_v ((opv_indexAddrA rfl rfl (by decide)).as (v' := .pointer (some (ad b2 0))) rfl) rfl ?_
        refine L_v (opv_load (v := .int .i64 x0) rfl (Rd.look rfl)) rfl ?_
        refine L_x rfl (opx_call0 (Group_any x0) rfl rfl rfl) (fun _ _ => ?_)
        refine L_emp ?_
        refine L_v (opv_move rfl) rfl ?_
        refine L_v (opv_extract (v := ag (grp x0).1) rfl rfl) rfl ?_
        refine L_v (opv_extract (v := .int .i64 (grp x0).2) rfl rfl) rfl ?_
        refine L_x rfl (opx_alloc rfl) (fun b24 _ => ?_)
        refine L_x rfl (opx_storeW (m := 4) rfl rfl (enc8_len (grp_adr x0).1) (enc8_one _) rfl) (fun _ _ => ?_)
        refine L_v (opv_assign rfl) rfl ?_
        refine L_nil ?_
        refine K_then ?_
        refine J_cut (X := Unit) (fun _ => []) (fun _ => (sep (old W) (F))) (fun _ => True) ?_ (fun _ _ => ?_)
        · refine J_seq ?_
          refine J_region ?_
          refine L_v (opv_move rfl) rfl ?_
          first
            | refine L_v (opv_eql rfl rfl) rfl ?_
            | refine L_v (opv_eqlS rfl rfl) rfl ?_
            | refine L_v (opv_eqlNil rfl rfl) rfl ?_
            | refine L_v (opv_eqlB rfl rfl) rfl ?_
          refine L_nil ?_
          refine K_then ?_
          refine J_cond rfl (fun h7 => ?_) (fun h7 => ?_)
          · refine J_seq ?_
            refine J_region ?_
            refine L_v (opv_loadW rfl (enc8_len (grp_adr x0).1)) rfl ?_
            refine L_x rfl (opx_call0 (Whose_grp (by assumption)) rfl rfl rfl) (fun _ _ => ?_)
            refine L_emp ?_
            refine L_v (opv_move rfl) rfl ?_
            refine L_v (opv_extract rfl rfl) rfl ?_
            refine L_v (opv_extract rfl rfl) rfl ?_
            refine L_v (opv_extract rfl rfl) rfl ?_
            refine L_v (opv_extract rfl rfl) rfl ?_
            refine L_v (opv_assign rfl) rfl ?_
            refine L_v (opv_assign rfl) rfl ?_
            refine L_v (opv_assign rfl) rfl ?_
            refine L_v (opv_assign rfl) rfl ?_
            refine L_nil ?_
            refine K_then ?_
            refine J_seq ?_
            refine J_region ?_
            refine L_v (opv_move rfl) rfl ?_
            refine L_v ((opv_neq rfl rfl).bool_f (by simp)) rfl ?_
            refine L_v (opv_move rfl) rfl ?_
            refine L_gon rfl rfl rfl ?_
            refine L_v (opv_move rfl) rfl ?_
            refine L_gon rfl rfl rfl ?_
            refine L_v ((opv_neq rfl rfl).bool_f (by simp)) rfl ?_
            first
              | refine L_v (opv_pick_tt rfl rfl) rfl ?_
              | refine L_v (opv_pick_ff rfl rfl) rfl ?_
              | refine L_v (opv_pick rfl rfl rfl) rfl ?_
            refine L_v (opv_move rfl) rfl ?_
            refine L_gon rfl rfl rfl ?_
            refine L_v (opv_move rfl) rfl ?_
            refine L_gon rfl rfl rfl ?_
            refine L_v ((opv_indexAddrA rfl rfl (by decide)).as (v' := .pointer (some (ad b2 0))) rfl) rfl ?_
            refine L_gon rfl rfl rfl ?_
            refine L_v (opv_load (v := .int .i64 x0) rfl (Rd.look rfl)) rfl ?_
            refine L_gon rfl rfl rfl ?_
            refine L_v ((opv_neq rfl rfl).bool_f (by simp)) rfl ?_
            first
              | refine L_v (opv_pick_tt rfl rfl) rfl ?_
              | refine L_v (opv_pick_ff rfl rfl) rfl ?_
              | refine L_v (opv_pick rfl rfl rfl) rfl ?_
            refine L_v (opv_move rfl) rfl ?_
            refine L_gon rfl rfl rfl ?_
            refine L_v (opv_move rfl) rfl ?_
            refine L_gon rfl rfl rfl ?_
            refine L_v ((opv_neq rfl rfl).bool_f (by simp)) rfl ?_
            first
              | refine L_v (opv_pick_tt rfl rfl) rfl ?_
              | refine L_v (opv_pick_ff rfl rfl) rfl ?_
              | refine L_v (opv_pick rfl rfl rfl) rfl ?_
            refine L_nil ?_
            refine K_then ?_
            refine J_cond_false rfl ?_
            refine J_skip ?_
            exact K_cut () (by trivial) trivial Ent.take
          · refine J_skip ?_
            exact K_cut () (by trivial) trivial Ent.take
        · refine J_seq ?_
          refine J_region ?_
          refine L_x rfl (opx_call0 (awake_spec W hW) rfl rfl rfl) (fun _ _ => ?_)
          refine L_v (opv_assign rfl) rfl ?_
          refine L_nil ?_
          refine K_then ?_
          refine J_ret ?_
          exact K_ret1 rfl rfl () trivial (rfl) Ent.take

structure T3 where
  a : Int
  b : Int
  c : Int
def encT3 (x : T3) : List Value := [.int .i64 x.a, .int .i64 x.b, .int .i64 x.c]
def okT3 (x : T3) : Prop := (Lit.int .i64 x.a).wf = true ∧ (Lit.int .i64 x.b).wf = true ∧ (Lit.int .i64 x.c).wf = true
abbrev ksT3 : List CK := [.int .i64, .int .i64, .int .i64]
theorem encT3_len (x : T3) : (encT3 x).length = 3 := rfl
theorem decT3 (cs : List Value) (h : Kinds ksT3 cs) : ∃ x, cs = encT3 x ∧ okT3 x := by
  obtain ⟨hl, hk⟩ := h
  obtain ⟨v0, g0, x0, rfl, w0⟩ := hk 0 _ rfl
  obtain ⟨v1, g1, x1, rfl, w1⟩ := hk 1 _ rfl
  obtain ⟨v2, g2, x2, rfl, w2⟩ := hk 2 _ rfl
  match cs, hl with
  | [c0, c1, c2], _ =>
    simp only [List.getElem?_cons_zero, List.getElem?_cons_succ, Option.some.injEq] at g0 g1 g2
    exact ⟨⟨x0, x1, x2⟩, by simp only [encT3, *], ⟨w0, w1, w2⟩⟩

end Go.Proofs.YtkkoepnljofhpaaDoor
namespace Go.Proofs.YtkkoepnljofhpaaDoor.addrBack
open Go.ChangeShapes Go.WideShapes Go.ChangeAt Go.RowKit Go.SLA
open Go.ChangeMaps (open_string shut_string)
set_option linter.unusedVariables false
theorem own : ownKnob Tryd.prog.godebug = none := by kernel_rfl
theorem laidOut : laidOutB Tryd.prog = true := by kernel_rfl
abbrev laidL := Rows.addrBackRow.laid
theorem door_met (os : Os) (args : Array Value) : laidMetH Tryd.prog laidL ((World.doorLaid Tryd.prog 72 os).forCall (fun _ _ => 0) ⟨#[], args, []⟩).memory :=
  laidMetH_of_parts3 (fuel := 8) (laidMet_of_run' 8 (by kernel_rfl) (by kernel_rfl)) (by kernel_rfl) (by kernel_rfl)
set_option maxRecDepth 100000 in
theorem lifted (os : Os) (started : os.Started) (H : Type) (enc : TypeId × Value → H) :
    ReturnsInHanded {} Tryd.checked os 5 .any (fun w args => (Rows.addrBackSpec.pre enc Tryd.prog Tryd.f5 [] false w args ∧ laidMetH Tryd.prog laidL w) ∧ sizedMet enc Tryd.prog Tryd.f5 (OpenSpec.ofChange Rows.addrBackSpec) false w args) (Rows.addrBackSpec.post enc Tryd.prog Tryd.f5 false true false false) := by
  refine returnsInHanded_of_change_and (C := Tryd.checked) (X := fun w _ => laidMetH Tryd.prog laidL w) (fun _ _ _ hh h => h.of_heap hh) own started (by kernel_rfl) Tryd.func5
    (ChangeSpec.witness_shaped (enc := enc) (C := Tryd.checked) (os := os) (X := fun w _ => laidMetH Tryd.prog laidL w) false (World.doorLaid Tryd.prog 72 os) #[.agg [.int .i64 0, .int .i64 0, .int .i64 0].toArray, .agg [.int .i64 0, .int .i64 0, .int .i64 0].toArray] 8 rfl (World.shaped_of_RefB (by kernel_rfl) (by kernel_rfl)) (by kernel_rfl) (by kernel_rfl) (by kernel_rfl) (door_met os _)) ?_
  intro W base args ds gs before hval0 hW _ _ hL _
  have hval : ∀ (j : Nat) t v, Tryd.f5.params[j]? = some t → args[j]? = some v → Value.okWide Tryd.prog W .any base t v := hval0
  have hW' := hW
  obtain ⟨p, q, hA0, hV, rfl, hfz, hnd⟩ := hW
  have hA : DataW.TrodAll enc Tryd.prog W 0 (fun _ => true) true Tryd.f5.params.toList args.toList ds p := hA0
  rw [Tryd.params5] at hA hval
  obtain ⟨v0, vs0, d0, ds0, p0, q0, hargs, rfl, rfl, h0, r0⟩ := trodAll_cons hA
  obtain ⟨v1, vs1, d1, ds1, p1, q1, rfl, rfl, rfl, h1, r1⟩ := trodAll_cons r0
  obtain ⟨rfl, rfl, rfl⟩ := trodAll_nil r1
  obtain rfl : args = #[v0, v1] := by cases args; simp_all
  obtain ⟨rfl, rfl⟩ := trodVars_none hV
  have k0 := h0
  have lt0 : ∀ x ∈ p0, x.block < W.heap.size := by obtain ⟨m, hm⟩ := k0; exact DataW.trod_lt m _ _ _ hm
  obtain ⟨l0, rfl, g0⟩ := open_flat (D := 5) (ks := ksT3) (by kernel_rfl) (by kernel_rfl) (hval 0 54 v0 rfl rfl) h0
  obtain ⟨x0, rfl, ok0⟩ := decT3 l0 g0
  have k1 := h1
  have lt1 : ∀ x ∈ p1, x.block < W.heap.size := by obtain ⟨m, hm⟩ := k1; exact DataW.trod_lt m _ _ _ hm
  obtain ⟨l1, rfl, g1⟩ := open_flat (D := 5) (ks := ksT3) (by kernel_rfl) (by kernel_rfl) (hval 1 54 v1 rfl rfl) h1
  obtain ⟨x1, rfl, ok1⟩ := decT3 l1 g1
  clear hA0 hval0
  refine (FSpec.law (AddrBack_spec W (of_laid hL) x0.a x0.b x0.c x1.a x1.b x1.c)).mono fun e W' ⟨he, bel⟩ => ?_
  subst he
  exact ⟨_, rfl, _, _, _, [], _, [], hW', trodAll_mk1 (shut_bool Tryd.underlying4 _), (trodAll_cons_mk (Below.trod laidOut (by kernel_rfl) (of_decide_eq_true (by kernel_rfl)) k0 bel lt0) (trodAll_cons_mk (Below.trod laidOut (by kernel_rfl) (of_decide_eq_true (by kernel_rfl)) k1 bel lt1) trodAll_mk0)), rfl, bel.frame _, fun h => by cases h⟩
theorem over : Rows.addrBackRow.holds Tryd.pinned (OpenSpec.ofChange Rows.addrBackSpec) :=
  OpenClaim.holds_of_wide 5 Tryd.f5 rfl rfl rfl rfl rfl rfl rfl ⟨rfl, rfl, rfl, rfl, rfl⟩ rfl rfl rfl rfl rfl (by kernel_rfl) Tryd.func5 (by kernel_rfl)
    (of_decide_eq_true (by kernel_rfl)) (by unfold Func.isWrapper; first | (rw [if_pos (by decide +kernel)]; kernel_rfl) | (rw [if_neg (by decide +kernel)]; exact ⟨rfl, rfl⟩))
    (fun os started H enc _ => lifted os started H enc)
end Go.Proofs.YtkkoepnljofhpaaDoor.addrBack
namespace Go.Proofs.YtkkoepnljofhpaaDoor
open Go in
theorem addrBack_holds : Rows.AddrBackCardSaid :=
  Claim7.holds_tied_plain_at .later [] [.data, .data, .data] true (true, "4352026d3f8f8474df4fe9aa230f97f4a130db5e6d5637098bc58d5d0327bd74") true
    addrBack.over (fun _ h => by cases h) (by kernel_rfl) (fun _ h => by cases h) addrBack_row_tie rfl ⟨rfl, rfl⟩ (by kernel_rfl) rfl
    (fun f fn hf hfn => by
      obtain rfl : f = 5 := Option.some.inj ((show Tryd.prog.funcNamed "pitot/pitotlaw03.AddrBack" = some 5 by kernel_rfl).symm.trans hf) |>.symm
      obtain rfl : fn = Tryd.f5 := (Option.some.inj (Tryd.func5.symm.trans hfn)).symm
      exact ⟨by kernel_rfl, fun j t ht => by
        rw [Tryd.params5] at ht
        have hm : t ∈ [54, 54] := by simpa using Array.mem_of_getElem? ht
        have hall : ([54, 54].all fun u => !Tryd.prog.wantsStandIn u) = true := by kernel_rfl
        exact (show Tryd.prog.wantsStandIn t = false by simpa using List.all_eq_true.1 hall t hm)⟩)
    (by kernel_rfl)
#print axioms addrBack_holds
end Go.Proofs.YtkkoepnljofhpaaDoor
namespace Go.Proofs.YtkkoepnljofhpaaDoor
open Go.SLA
end Go.Proofs.YtkkoepnljofhpaaDoor
