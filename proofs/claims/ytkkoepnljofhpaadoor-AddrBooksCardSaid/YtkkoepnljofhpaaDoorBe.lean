/- The contract of the document's Put, proved by a walk over its code, and what the document's book is after each call; it is used by the texts that import this one. -/
import Derived.Test.YtkkoepnljofhpaaDoorBd
import Derived.Test.YtkkoepnljofhpaaDoorH
namespace Go.Proofs.YtkkoepnljofhpaaDoor
open Go.SLA
set_option maxRecDepth 100000
set_option linter.unusedVariables false
set_option linter.unusedSimpArgs false
attribute [local irreducible] J L K QL Rg FSpec OpV OpX Rd Back

/-- What is to be when the rows from i on are laid behind O. -/
def insD (O : List Row) (done : Bool) (rest : List Row) (r : Row) : List Row := O ++ (if done then rest else ins rest r)
theorem insD_put {O : List Row} {L : List Row} {i : Nat} {x r : Row} (hx : L[i]? = some x) (h : numM r.1 < numM x.1) : insD (O ++ [r] ++ [x]) true (L.drop (i + 1)) r = insD O false (L.drop i) r := by
  unfold insD
  rw [drop_get hx, ins, if_pos h]
  simp
theorem insD_pass {O : List Row} {L : List Row} {i : Nat} {x r : Row} {d : Bool} (hx : L[i]? = some x) (h : d = true ∨ ¬ numM r.1 < numM x.1) : insD (O ++ [x]) d (L.drop (i + 1)) r = insD O d (L.drop i) r := by
  unfold insD
  rw [drop_get hx]
  cases d with
  | true => simp
  | false => rw [ins, if_neg (h.resolve_left (by decide))]; simp
theorem insD_end {O : List Row} {L : List Row} {i : Nat} {r : Row} (hi : ¬ i < L.length) : insD O false (L.drop i) r = O ++ [r] := by
  unfold insD
  rw [List.drop_eq_nil_of_le (by omega)]; rfl
theorem insD_done {O : List Row} {L : List Row} {i : Nat} {r : Row} (hi : ¬ i < L.length) : insD O true (L.drop i) r = O := by
  unfold insD
  rw [List.drop_eq_nil_of_le (by omega)]
  simp

set_option maxHeartbeats 1000000 in
theorem RPut (b : Nat) (A : Option Addr) (c : Nat) (L : List Row) (hA : L = [] ∨ ∃ b o, A = some (ad b o)) (hL : ∀ x ∈ L, Bys 6 x.1) (hn : L.length ≤ 1000) (m : List Nat) (hb : Bys 6 m) (n : Int) : FSpec Tryd.prog 29 #[.pointer (some (ad b 0)), .string (tx m), .int .i64 n] ((sep (cel b [(.slice A (L).length c)] 64) (Own 76 2 (.slice A (L).length c) (L).length ((L).flatMap encR)))) (fun y : Option Addr × Nat => ins (rdel L m) (m, n) = [] ∨ ∃ b o, y.1 = some (ad b o)) (fun y => .tuple #[.int .i64 ((rlook L m).getD 0), .bool (rlook L m).isSome]) (fun y => (sep (cel b [(.slice y.1 (ins (rdel L m) (m, n)).length y.2)] 64) (Own 76 2 (.slice y.1 (ins (rdel L m) (m, n)).length y.2) (ins (rdel L m) (m, n)).length ((ins (rdel L m) (m, n)).flatMap encR)))) := by
  refine FSpec.enter' Tryd.func29 rfl Tryd.ntmps29 rfl fun σ F => ?_
  refine J_seq ?_
  refine J_region ?_
  refine L_v (opv_assign rfl) rfl ?_
  refine L_v (opv_assign rfl) rfl ?_
  refine L_nil ?_
  refine K_then ?_
  refine J_seq ?_
  refine J_region ?_
  refine L_v (opv_move rfl) rfl ?_
  refine L_v (opv_move rfl) rfl ?_
  refine L_x rfl (opx_call0 (RGet b A c L hA hL hn m hb) rfl rfl rfl) (fun _ _ => ?_)
  refine L_v (opv_move rfl) rfl ?_
  refine L_v (opv_extract rfl rfl) rfl ?_
  refine L_v (opv_extract rfl rfl) rfl ?_
  refine L_v (opv_assign rfl) rfl ?_
  refine L_v (opv_assign rfl) rfl ?_
  refine L_nil ?_
  refine K_then ?_
  refine J_seq ?_
  refine J_region ?_
  refine L_v (opv_move rfl) rfl ?_
  refine L_v (opv_move rfl) rfl ?_
  refine L_x rfl (opx_call0 (RDrop b A c L hA hL hn m hb) rfl rfl rfl) (fun y hA2 => ?_)
  obtain ⟨A2, c2⟩ := y
  refine L_nil ?_
  refine K_then ?_
  refine J_seq ?_
  refine J_imp (sep (Own 76 2 (.slice none 0 0) 0 []) (sep ((sep (cel b [(.slice A2 (rdel L m).length c2)] 64) (Own 76 2 (.slice A2 (rdel L m).length c2) (rdel L m).length ((rdel L m).flatMap encR)))) (F))) (Ent.trans (Ent.of (emp_sep _).symm) ((Own.nil 76 2).frame _)) ?_
  have hdn : (rdel L m).length ≤ 1000 := Nat.le_trans (List.length_filter_le _ _) hn
  have hLd : ∀ x ∈ rdel L m, Bys 6 x.1 := fun x hx => hL x (List.mem_filter.1 hx).1
  refine J_region ?_
  refine L_v (opv_assign rfl) rfl ?_
  refine L_nil ?_
  refine K_then ?_
  refine J_seq ?_
  refine J_region ?_
  refine L_v (opv_assign rfl) rfl ?_
  refine L_nil ?_
  refine K_then ?_
  refine J_seq ?_
  refine J_seq ?_
  refine J_region ?_
  refine L_v (opv_assign rfl) rfl ?_
  refine L_nil ?_
  refine K_then ?_
  refine J_block ?_
  refine J_loop (X := Nat × Bool × List Row × Option Addr × Nat) (fun z => [(0, .pointer (some (ad b 0))), (1, .string (tx m)), (2, .int .i64 n), (8, .int .i64 ((rlook L m).getD 0)), (9, .bool (rlook L m).isSome), (10, .slice z.2.2.2.1 z.2.2.1.length z.2.2.2.2), (11, .bool z.2.1), (12, .int .i64 z.1)]) (fun z => (sep (Own 76 2 (.slice z.2.2.2.1 z.2.2.1.length z.2.2.2.2) (z.2.2.1).length ((z.2.2.1).flatMap encR)) (sep ((sep (cel b [(.slice A2 (rdel L m).length c2)] 64) (Own 76 2 (.slice A2 (rdel L m).length c2) (rdel L m).length ((rdel L m).flatMap encR)))) (F)))) (fun z => z.1 ≤ (rdel L m).length ∧ z.2.2.1.length ≤ 2 * z.1 ∧ insD z.2.2.1 z.2.1 ((rdel L m).drop z.1) (m, n) = ins (rdel L m) (m, n)) (fun z => (rdel L m).length - z.1) ((0, false, [], none, 0)) ⟨Nat.zero_le _, Nat.le_refl _, rfl⟩ ⟨rfl, rfl, rfl, rfl, rfl, rfl, rfl, rfl, trivial⟩ (by show Ent _ (sep (Own 76 2 (.slice none 0 0) 0 []) (sep ((sep (cel b [(.slice A2 (rdel L m).length c2)] 64) (Own 76 2 (.slice A2 (rdel L m).length c2) (rdel L m).length ((rdel L m).flatMap encR)))) (F))); exact Ent.take) (fun z hz => ?_)
  have hzl := hz.2.1
  have hz1 := hz.1
  refine J_seq ?_
  refine J_seq ?_
  refine J_region ?_
  refine L_v (opv_move rfl) rfl ?_
  refine L_v (opv_move rfl) rfl ?_
  refine L_v (opv_nilCheck rfl) rfl ?_
  first
    | refine L_v (opv_fieldAddr0 rfl) rfl ?_
    | refine L_v (opv_fieldAddr rfl) rfl ?_
  refine L_v (opv_load rfl (Rd.look rfl)) rfl ?_
  first
    | refine L_v (opv_lenL rfl) rfl ?_
    | refine L_v (opv_lenS rfl) rfl ?_
  refine L_v (opv_lss rfl rfl) rfl ?_
  refine L_nil ?_
  refine K_then ?_
  refine J_cond rfl (fun h1 => ?_) (fun h1 => ?_)
  · obtain ⟨x, hx, hm⟩ := get_lt (l := rdel L m) (i := z.1) (by omega)
    obtain ⟨b1, o1, rfl⟩ : ∃ b o, A2 = some (ad b o) := by rcases hA2 with h | h; (rw [h] at hx; simp at hx); exact h
    refine J_skip ?_
    refine K_then ?_
    refine J_seq ?_
    refine J_block ?_
    refine J_seq ?_
    refine J_seq ?_
    refine J_region ?_
    refine L_v (opv_move rfl) rfl ?_
    refine L_v ((opv_not rfl).as (v' := .bool (decide (z.2.1 = false))) (by cases z.2.1 <;> rfl)) rfl ?_
    refine L_v (opv_move rfl) rfl ?_
    refine L_gt rfl rfl (fun h2 => ?_) (fun h2 => ?_) (fun _ h => by cases h; rfl)
    · refine L_v (opv_move rfl) rfl ?_
      refine L_gt_on h2 rfl rfl ?_
      refine L_v (opv_nilCheck rfl) rfl ?_
      refine L_gt_on h2 rfl rfl ?_
      first
        | refine L_v (opv_fieldAddr0 rfl) rfl ?_
        | refine L_v (opv_fieldAddr rfl) rfl ?_
      refine L_gt_on h2 rfl rfl ?_
      refine L_v (opv_load rfl (Rd.look rfl)) rfl ?_
      refine L_gt_on h2 rfl rfl ?_
      refine L_v (opv_move rfl) rfl ?_
      refine L_gt_on h2 rfl rfl ?_
      first
        | refine L_v (opv_indexAddr rfl rfl (by omega)) rfl ?_
        | refine L_v (opv_indexAddrA rfl rfl (by omega)) rfl ?_
      refine L_gt_on h2 rfl rfl ?_
      first
        | refine L_v (opv_fieldAddr0 rfl) rfl ?_
        | refine L_v (opv_fieldAddr rfl) rfl ?_
      refine L_gt_on h2 rfl rfl ?_
      refine L_v (opv_load rfl (Rd.of_take (S := Own 76 2 (.slice (some (ad b1 o1)) (rdel L m).length c2) (rdel L m).length ((rdel L m).flatMap encR)) ((RdS.own (m := 2) (e := 76) (c := c2) encR_len (.inr ⟨b1, o1, rfl⟩)).rd b1 o1 rfl z.1 x 0 _ hx rfl))) rfl ?_
      refine L_gt_on h2 rfl rfl ?_
      refine L_v (opv_move rfl) rfl ?_
      refine L_gt_on h2 rfl rfl ?_
      refine L_v ((opv_gtrTx (hLd x hm) hb rfl rfl)) rfl ?_
      refine L_v (opv_pick_t rfl h2 rfl) rfl ?_
      refine L_nil ?_
      refine K_then ?_
      refine J_cond rfl (fun h3 => ?_) (fun h3 => ?_)
      · refine J_seq ?_
        refine J_region ?_
        refine L_v (opv_move rfl) rfl ?_
        refine L_v (opv_move rfl) rfl ?_
        refine L_v (opv_move rfl) rfl ?_
        refine L_v ((opv_build rfl).as (v' := .agg (encR (m, n)).toArray) rfl) rfl ?_
        refine L_x rfl (opx_buildSlice1 (m := 2) (l := encR (m, n)) rfl rfl (by omega) (by omega) rfl) (fun b49 _ => ?_)
        refine L_x rfl (opx_append (m := 2) (B := 24) rfl rfl (Src.lit) rfl (by omega) rfl (encR_one (m, n)) (by unfold maxLen; omega) (by omega) rfl) (fun y50 _ => ?_)
        refine L_v (opv_assign rfl) rfl ?_
        refine L_nil ?_
        refine K_then ?_
        refine J_region ?_
        refine L_v (opv_assign rfl) rfl ?_
        refine L_nil ?_
        refine K_then ?_
        refine J_region ?_
        refine L_v (opv_move rfl) rfl ?_
        refine L_v (opv_move rfl) rfl ?_
        refine L_v (opv_nilCheck rfl) rfl ?_
        first
          | refine L_v (opv_fieldAddr0 rfl) rfl ?_
          | refine L_v (opv_fieldAddr rfl) rfl ?_
        refine L_v (opv_load rfl (Rd.look rfl)) rfl ?_
        refine L_v (opv_move rfl) rfl ?_
        first
          | refine L_v (opv_indexAddr rfl rfl (by omega)) rfl ?_
          | refine L_v (opv_indexAddrA rfl rfl (by omega)) rfl ?_
        refine L_v (opv_loadN (vs := encR x) rfl rfl (fun j u hj => Rd.of_take (S := Own 76 2 (.slice (some (ad b1 o1)) (rdel L m).length c2) (rdel L m).length ((rdel L m).flatMap encR)) ((RdS.own (m := 2) (e := 76) (c := c2) encR_len (.inr ⟨b1, o1, rfl⟩)).rd b1 o1 rfl z.1 x j u hx hj))) rfl ?_
        refine L_x rfl (opx_buildSlice1 (m := 2) (l := encR x) rfl rfl (by omega) (by omega) rfl) (fun b59 _ => ?_)
        refine L_x rfl (opx_append (m := 2) (B := 24) rfl rfl (Src.lit) rfl (by omega) rfl (encR_one x) (by unfold maxLen; omega) (by omega) rfl) (fun y60 _ => ?_)
        refine L_v (opv_assign rfl) rfl ?_
        refine L_nil ?_
        refine K_block ?_
        refine K_then ?_
        refine J_region ?_
        refine L_v (opv_move rfl) rfl ?_
        first
          | refine L_v (opv_add64 rfl rfl (by omega)) rfl ?_
          | refine L_v (opv_addS rfl rfl (by omega)) rfl ?_
          | refine L_v (opv_add rfl rfl) rfl ?_
        refine L_v (opv_assign rfl) rfl ?_
        refine L_nil ?_
        exact K_loop ((z.1 + 1, true, z.2.2.1 ++ [(m, n)] ++ [x], y60)) ⟨by show z.1 + 1 ≤ _; omega, by show (z.2.2.1 ++ [(m, n)] ++ [x]).length ≤ 2 * (z.1 + 1); rw [len_snoc, len_snoc]; have := hz.2.1; omega, (by show insD (z.2.2.1 ++ [(m, n)] ++ [x]) true _ _ = _; rw [insD_put hx (by show numM m < _; assumption)]; exact (show z.2.1 = false by assumption) ▸ hz.2.2)⟩ (by show _ - (z.1 + 1) < _; omega) ⟨rfl, rfl, rfl, rfl, rfl, (by show some (Value.slice y60.1 (z.2.2.1.length + 1 + 1) y60.2) = some (Value.slice y60.1 (z.2.2.1 ++ [(m, n)] ++ [x]).length y60.2); rw [len_snoc, len_snoc]), rfl, rfl, trivial⟩ (by show Ent _ (sep (Own 76 2 (.slice y60.1 (z.2.2.1 ++ [(m, n)] ++ [x]).length y60.2) (z.2.2.1 ++ [(m, n)] ++ [x]).length ((z.2.2.1 ++ [(m, n)] ++ [x]).flatMap encR)) (sep ((sep (cel b [(.slice (some (ad b1 o1)) (rdel L m).length c2)] 64) (Own 76 2 (.slice (some (ad b1 o1)) (rdel L m).length c2) (rdel L m).length ((rdel L m).flatMap encR)))) (F))); rw [len_snoc, len_snoc, flatR_snoc, flatR_snoc]; exact Ent.take)
      · refine J_skip ?_
        refine K_then ?_
        refine J_region ?_
        refine L_v (opv_move rfl) rfl ?_
        refine L_v (opv_move rfl) rfl ?_
        refine L_v (opv_nilCheck rfl) rfl ?_
        first
          | refine L_v (opv_fieldAddr0 rfl) rfl ?_
          | refine L_v (opv_fieldAddr rfl) rfl ?_
        refine L_v (opv_load rfl (Rd.look rfl)) rfl ?_
        refine L_v (opv_move rfl) rfl ?_
        first
          | refine L_v (opv_indexAddr rfl rfl (by omega)) rfl ?_
          | refine L_v (opv_indexAddrA rfl rfl (by omega)) rfl ?_
        refine L_v (opv_loadN (vs := encR x) rfl rfl (fun j u hj => Rd.of_take (S := Own 76 2 (.slice (some (ad b1 o1)) (rdel L m).length c2) (rdel L m).length ((rdel L m).flatMap encR)) ((RdS.own (m := 2) (e := 76) (c := c2) encR_len (.inr ⟨b1, o1, rfl⟩)).rd b1 o1 rfl z.1 x j u hx hj))) rfl ?_
        refine L_x rfl (opx_buildSlice1 (m := 2) (l := encR x) rfl rfl (by omega) (by omega) rfl) (fun b59 _ => ?_)
        refine L_x rfl (opx_append (m := 2) (B := 24) rfl rfl (Src.lit) rfl (by omega) rfl (encR_one x) (by unfold maxLen; omega) (by omega) rfl) (fun y60 _ => ?_)
        refine L_v (opv_assign rfl) rfl ?_
        refine L_nil ?_
        refine K_block ?_
        refine K_then ?_
        refine J_region ?_
        refine L_v (opv_move rfl) rfl ?_
        first
          | refine L_v (opv_add64 rfl rfl (by omega)) rfl ?_
          | refine L_v (opv_addS rfl rfl (by omega)) rfl ?_
          | refine L_v (opv_add rfl rfl) rfl ?_
        refine L_v (opv_assign rfl) rfl ?_
        refine L_nil ?_
        exact K_loop ((z.1 + 1, z.2.1, z.2.2.1 ++ [x], y60)) ⟨by show z.1 + 1 ≤ _; omega, by show (z.2.2.1 ++ [x]).length ≤ 2 * (z.1 + 1); rw [len_snoc]; have := hz.2.1; omega, (by show insD (z.2.2.1 ++ [x]) z.2.1 _ _ = _; rw [insD_pass hx (by first | exact .inl (Bool.not_eq_false _ ▸ (by assumption)) | exact .inr (by show ¬ numM m < _; assumption))]; exact hz.2.2)⟩ (by show _ - (z.1 + 1) < _; omega) ⟨rfl, rfl, rfl, rfl, rfl, (by show some (Value.slice y60.1 (z.2.2.1.length + 1) y60.2) = some (Value.slice y60.1 (z.2.2.1 ++ [x]).length y60.2); rw [len_snoc]), rfl, rfl, trivial⟩ (by show Ent _ (sep (Own 76 2 (.slice y60.1 (z.2.2.1 ++ [x]).length y60.2) (z.2.2.1 ++ [x]).length ((z.2.2.1 ++ [x]).flatMap encR)) (sep ((sep (cel b [(.slice (some (ad b1 o1)) (rdel L m).length c2)] 64) (Own 76 2 (.slice (some (ad b1 o1)) (rdel L m).length c2) (rdel L m).length ((rdel L m).flatMap encR)))) (F))); rw [len_snoc, flatR_snoc]; exact Ent.take)
    · refine L_gt_off h2 rfl rfl ?_ (fun _ h => by cases h; rfl)
      refine L_gt_off h2 rfl rfl ?_ (fun _ h => by cases h; rfl)
      refine L_gt_off h2 rfl rfl ?_ (fun _ h => by cases h; rfl)
      refine L_gt_off h2 rfl rfl ?_ (fun _ h => by cases h; rfl)
      refine L_gt_off h2 rfl rfl ?_ (fun _ h => by cases h; rfl)
      refine L_gt_off h2 rfl rfl ?_ (fun _ h => by cases h; rfl)
      refine L_gt_off h2 rfl rfl ?_ (fun _ h => by cases h; rfl)
      refine L_gt_off h2 rfl rfl ?_ (fun _ h => by cases h; rfl)
      refine L_gt_off h2 rfl rfl ?_ (fun _ h => by cases h; rfl)
      refine L_v (opv_pick_f rfl h2 rfl) rfl ?_
      refine L_nil ?_
      refine K_then ?_
      refine J_cond_false rfl ?_
      refine J_skip ?_
      refine K_then ?_
      refine J_region ?_
      refine L_v (opv_move rfl) rfl ?_
      refine L_v (opv_move rfl) rfl ?_
      refine L_v (opv_nilCheck rfl) rfl ?_
      first
        | refine L_v (opv_fieldAddr0 rfl) rfl ?_
        | refine L_v (opv_fieldAddr rfl) rfl ?_
      refine L_v (opv_load rfl (Rd.look rfl)) rfl ?_
      refine L_v (opv_move rfl) rfl ?_
      first
        | refine L_v (opv_indexAddr rfl rfl (by omega)) rfl ?_
        | refine L_v (opv_indexAddrA rfl rfl (by omega)) rfl ?_
      refine L_v (opv_loadN (vs := encR x) rfl rfl (fun j u hj => Rd.of_take (S := Own 76 2 (.slice (some (ad b1 o1)) (rdel L m).length c2) (rdel L m).length ((rdel L m).flatMap encR)) ((RdS.own (m := 2) (e := 76) (c := c2) encR_len (.inr ⟨b1, o1, rfl⟩)).rd b1 o1 rfl z.1 x j u hx hj))) rfl ?_
      refine L_x rfl (opx_buildSlice1 (m := 2) (l := encR x) rfl rfl (by omega) (by omega) rfl) (fun b59 _ => ?_)
      refine L_x rfl (opx_append (m := 2) (B := 24) rfl rfl (Src.lit) rfl (by omega) rfl (encR_one x) (by unfold maxLen; omega) (by omega) rfl) (fun y60 _ => ?_)
      refine L_v (opv_assign rfl) rfl ?_
      refine L_nil ?_
      refine K_block ?_
      refine K_then ?_
      refine J_region ?_
      refine L_v (opv_move rfl) rfl ?_
      first
        | refine L_v (opv_add64 rfl rfl (by omega)) rfl ?_
        | refine L_v (opv_addS rfl rfl (by omega)) rfl ?_
        | refine L_v (opv_add rfl rfl) rfl ?_
      refine L_v (opv_assign rfl) rfl ?_
      refine L_nil ?_
      exact K_loop ((z.1 + 1, z.2.1, z.2.2.1 ++ [x], y60)) ⟨by show z.1 + 1 ≤ _; omega, by show (z.2.2.1 ++ [x]).length ≤ 2 * (z.1 + 1); rw [len_snoc]; have := hz.2.1; omega, (by show insD (z.2.2.1 ++ [x]) z.2.1 _ _ = _; rw [insD_pass hx (by first | exact .inl (Bool.not_eq_false _ ▸ (by assumption)) | exact .inr (by show ¬ numM m < _; assumption))]; exact hz.2.2)⟩ (by show _ - (z.1 + 1) < _; omega) ⟨rfl, rfl, rfl, rfl, rfl, (by show some (Value.slice y60.1 (z.2.2.1.length + 1) y60.2) = some (Value.slice y60.1 (z.2.2.1 ++ [x]).length y60.2); rw [len_snoc]), rfl, rfl, trivial⟩ (by show Ent _ (sep (Own 76 2 (.slice y60.1 (z.2.2.1 ++ [x]).length y60.2) (z.2.2.1 ++ [x]).length ((z.2.2.1 ++ [x]).flatMap encR)) (sep ((sep (cel b [(.slice (some (ad b1 o1)) (rdel L m).length c2)] 64) (Own 76 2 (.slice (some (ad b1 o1)) (rdel L m).length c2) (rdel L m).length ((rdel L m).flatMap encR)))) (F))); rw [len_snoc, flatR_snoc]; exact Ent.take)
  · refine J_exit ?_
    refine K_then_exit ?_
    refine K_then_exit ?_
    refine K_block_here ?_
    refine K_then ?_
    refine J_seq ?_
    refine J_seq ?_
    refine J_region ?_
    refine L_v (opv_move rfl) rfl ?_
    refine L_v ((opv_not rfl).as (v' := .bool (decide (z.2.1 = false))) (by cases z.2.1 <;> rfl)) rfl ?_
    refine L_nil ?_
    refine K_then ?_
    refine J_cond rfl (fun h4 => ?_) (fun h4 => ?_)
    · refine J_region ?_
      refine L_v (opv_move rfl) rfl ?_
      refine L_v (opv_move rfl) rfl ?_
      refine L_v (opv_move rfl) rfl ?_
      refine L_v ((opv_build rfl).as (v' := .agg (encR (m, n)).toArray) rfl) rfl ?_
      refine L_x rfl (opx_buildSlice1 (m := 2) (l := encR (m, n)) rfl rfl (by omega) (by omega) rfl) (fun b67 _ => ?_)
      refine L_x rfl (opx_append (m := 2) (B := 24) rfl rfl (Src.lit) rfl (by omega) rfl (encR_one (m, n)) (by unfold maxLen; omega) (by omega) rfl) (fun y68 _ => ?_)
      refine L_v (opv_assign rfl) rfl ?_
      refine L_nil ?_
      refine K_then ?_
      refine J_seq ?_
      refine J_region ?_
      refine L_v (opv_move rfl) rfl ?_
      refine L_v (opv_move rfl) rfl ?_
      refine L_v (opv_nilCheck rfl) rfl ?_
      first
        | refine L_v (opv_fieldAddr0 rfl) rfl ?_
        | refine L_v (opv_fieldAddr rfl) rfl ?_
      refine L_x rfl (opx_store rfl rfl rfl (by simp [Value.oneCell'])) (fun _ _ => ?_)
      refine L_nil ?_
      refine K_then ?_
      refine J_seq ?_
      refine J_region ?_
      refine L_v (opv_move rfl) rfl ?_
      refine L_v (opv_move rfl) rfl ?_
      refine L_v (opv_assign rfl) rfl ?_
      refine L_v (opv_assign rfl) rfl ?_
      refine L_nil ?_
      refine K_then ?_
      refine J_ret ?_
      have hq : ins (rdel L m) (m, n) = z.2.2.1 ++ [(m, n)] := by rw [← insD_end (L := rdel L m) (i := z.1) (by omega), ← (show z.2.1 = false by assumption)]; exact hz.2.2.symm
      refine K_know (fun w hs => own_nonnil hs.drop) fun hA1 => ?_
      exact K_ret2 rfl rfl rfl y68 (by rw [hq]; exact .inr (hA1.resolve_left (fun h => by have := h.2.2.1; omega))) rfl (by show Ent _ (sep ((sep (cel b [(.slice y68.1 (ins (rdel L m) (m, n)).length y68.2)] 64) (Own 76 2 (.slice y68.1 (ins (rdel L m) (m, n)).length y68.2) (ins (rdel L m) (m, n)).length ((ins (rdel L m) (m, n)).flatMap encR)))) (F)); rw [hq, len_snoc, flatR_snoc]; exact Ent.take)
    · refine J_skip ?_
      refine K_then ?_
      refine J_seq ?_
      refine J_region ?_
      refine L_v (opv_move rfl) rfl ?_
      refine L_v (opv_move rfl) rfl ?_
      refine L_v (opv_nilCheck rfl) rfl ?_
      first
        | refine L_v (opv_fieldAddr0 rfl) rfl ?_
        | refine L_v (opv_fieldAddr rfl) rfl ?_
      refine L_x rfl (opx_store rfl rfl rfl (by simp [Value.oneCell'])) (fun _ _ => ?_)
      refine L_nil ?_
      refine K_then ?_
      refine J_seq ?_
      refine J_region ?_
      refine L_v (opv_move rfl) rfl ?_
      refine L_v (opv_move rfl) rfl ?_
      refine L_v (opv_assign rfl) rfl ?_
      refine L_v (opv_assign rfl) rfl ?_
      refine L_nil ?_
      refine K_then ?_
      refine J_ret ?_
      have hd : z.2.1 = true := Bool.not_eq_false _ ▸ (by assumption)
      have hq : ins (rdel L m) (m, n) = z.2.2.1 := by rw [← insD_done (O := z.2.2.1) (L := rdel L m) (i := z.1) (by omega), ← hd]; exact hz.2.2.symm
      refine K_know (fun w hs => own_nonnil hs.drop) fun hA1 => ?_
      exact K_ret2 rfl rfl rfl z.2.2.2 (by rw [hq]; exact hA1.imp (fun h => List.eq_nil_of_length_eq_zero h.2.2.1) id) rfl (by show Ent _ (sep ((sep (cel b [(.slice z.2.2.2.1 (ins (rdel L m) (m, n)).length z.2.2.2.2)] 64) (Own 76 2 (.slice z.2.2.2.1 (ins (rdel L m) (m, n)).length z.2.2.2.2) (ins (rdel L m) (m, n)).length ((ins (rdel L m) (m, n)).flatMap encR)))) (F)); rw [hq]; exact Ent.take)

end Go.Proofs.YtkkoepnljofhpaaDoor
