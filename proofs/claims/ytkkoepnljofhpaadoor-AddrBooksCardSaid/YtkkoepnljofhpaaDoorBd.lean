/- Contracts of the document's book of addresses, each proved by a walk over its code; they are used by the texts that import this one. -/
import Derived.Test.YtkkoepnljofhpaaDoorBa
import Derived.Test.YtkkoepnljofhpaaDoorAs
import Derived.Test.YtkkoepnljofhpaaDoorH
namespace Go.Proofs.YtkkoepnljofhpaaDoor
open Go.SLA
set_option maxRecDepth 100000
set_option linter.unusedVariables false
set_option linter.unusedSimpArgs false
attribute [local irreducible] J L K QL Rg FSpec OpV OpX Rd Back

abbrev Row := List Nat × Int
def encR (x : Row) : List Value := [.string (tx x.1), .int .i64 x.2]
theorem encR_len (x : Row) : (encR x).length = 2 := rfl
theorem bytesLess_num : ∀ {a b : List Nat}, (∀ w ∈ a, w < 256) → (∀ w ∈ b, w < 256) → a.length = b.length → Op.bytesLess (a.map UInt8.ofNat) (b.map UInt8.ofNat) = decide (numM a < numM b)
  | [], [], _, _, _ => rfl
  | x :: a, y :: b, ha, hb, hl => by
    have hl' : a.length = b.length := by simpa using hl
    have ih := bytesLess_num (a := a) (b := b) (fun w hw => ha w (List.mem_cons_of_mem _ hw)) (fun w hw => hb w (List.mem_cons_of_mem _ hw)) hl'
    have hx := ha x List.mem_cons_self
    have hy := hb y List.mem_cons_self
    have na := numM_lt (l := a) (fun w hw => ha w (List.mem_cons_of_mem _ hw))
    have nb := numM_lt (l := b) (fun w hw => hb w (List.mem_cons_of_mem _ hw))
    rw [hl'] at na
    have lt1 : (UInt8.ofNat x < UInt8.ofNat y) ↔ x < y := by
      rw [UInt8.lt_iff_toNat_lt, UInt8.toNat_ofNat', UInt8.toNat_ofNat', Nat.mod_eq_of_lt hx, Nat.mod_eq_of_lt hy]
    have lt2 : (UInt8.ofNat y < UInt8.ofNat x) ↔ y < x := by
      rw [UInt8.lt_iff_toNat_lt, UInt8.toNat_ofNat', UInt8.toNat_ofNat', Nat.mod_eq_of_lt hx, Nat.mod_eq_of_lt hy]
    rw [List.map_cons, List.map_cons, numM, numM, hl', Op.bytesLess, ih]
    rcases Nat.lt_trichotomy x y with h | h | h
    · have : (x + 1) * 256 ^ b.length ≤ y * 256 ^ b.length := Nat.mul_le_mul_right _ h
      rw [Nat.add_mul] at this
      rw [decide_eq_true (lt1.2 h), decide_eq_true (show x * 256 ^ b.length + numM a < y * 256 ^ b.length + numM b by omega)]; rfl
    · subst h
      rw [decide_eq_false (fun h => Nat.lt_irrefl _ (lt1.1 h))]
      have q1 : (x * 256 ^ b.length + numM a < x * 256 ^ b.length + numM b) = (numM a < numM b) := propext (by omega)
      simp [q1]
    · have : (y + 1) * 256 ^ b.length ≤ x * 256 ^ b.length := Nat.mul_le_mul_right _ h
      rw [Nat.add_mul] at this
      have hne : (UInt8.ofNat x == UInt8.ofNat y) = false := by
        rw [beq_eq_false_iff_ne]
        intro e
        have := lt2.2 h
        rw [e] at this
        exact UInt8.lt_irrefl _ this
      rw [decide_eq_false (fun h' => absurd (lt1.1 h') (by omega)), hne, decide_eq_false (show ¬ x * 256 ^ b.length + numM a < y * 256 ^ b.length + numM b by omega)]; rfl
theorem tx_list (l : List Nat) : (tx l).toList = l.map UInt8.ofNat := by
  rw [Go.ByteArray.toList_eq]
  unfold tx bytesL
  simp
section
variable {prog : Program} {σ : World} {n : Nat} {E : Env} {P : HProp}
theorem opv_gtrTx {d : Option Tmp} {ty : TypeId} {pos : String} {aft : Array Edge} {g : Option (Nat × Bool)} {x y : Operand} {t t' : TypeId} {a b : List Nat} (ha : Bys 6 a) (hb : Bys 6 b) (hx : ev E x = some (.string (tx a))) (hy : ev E y = some (.string (tx b))) : OpV prog σ n E P ⟨d, .binOp .gtr t x y t', ty, pos, aft, g⟩ (.bool (decide (numM b < numM a))) := by
  unfold OpV
  exact fun _ _ hag _ => by
    have e : (!(Op.bytesLess (tx a).toList (tx b).toList || (tx a).toList == (tx b).toList)) = decide (numM b < numM a) := by
      rw [bytes_beq, tx_list, tx_list, bytesLess_num ha.2 hb.2 (by rw [ha.1, hb.1])]
      rcases Nat.lt_trichotomy (numM a) (numM b) with h | h | h
      · rw [decide_eq_true h, decide_eq_false (show ¬ numM b < numM a by omega)]; rfl
      · have : a = b := numM_inj ha.2 hb.2 (by rw [ha.1, hb.1]) h
        subst this
        simp
      · have hne : ¬ tx a = tx b := fun e => by
          have := tx_inj ha hb e
          rw [this] at h
          exact Nat.lt_irrefl _ h
        rw [decide_eq_false (show ¬ numM a < numM b by omega), decide_eq_true h, decide_eq_false hne]; rfl
    simp [execOp, hag.ev hx, hag.ev hy, eqGuard, binOp, Op.stringOp, e]
end
def rlook : List Row → List Nat → Option Int
  | [], _ => none
  | x :: r, m => if x.1 = m then some x.2 else rlook r m
def rdel (l : List Row) (m : List Nat) : List Row := l.filter fun x => decide (x.1 ≠ m)
def ins : List Row → Row → List Row
  | [], r => [r]
  | x :: t, r => if numM r.1 < numM x.1 then r :: x :: t else x :: ins t r
theorem encR_one (x : Row) : ∀ u ∈ encR x, u.oneCell' = true := by
  intro u hu
  simp only [encR, List.mem_cons, List.not_mem_nil, or_false] at hu
  rcases hu with rfl | rfl <;> rfl
theorem flatR_snoc (l : List Row) (x : Row) : (l ++ [x]).flatMap encR = l.flatMap encR ++ encR x := by simp
theorem len_snoc {α : Type} (l : List α) (x : α) : (l ++ [x]).length = l.length + 1 := by simp
theorem drop_get {α : Type} {l : List α} {i : Nat} {x : α} (h : l[i]? = some x) : l.drop i = x :: l.drop (i + 1) := by
  have hl := (List.getElem?_eq_some_iff.1 h).1
  rw [List.drop_eq_getElem_cons hl, (List.getElem?_eq_some_iff.1 h).2]
theorem rlook_hit {L : List Row} {m : List Nat} {i : Nat} {x : Row} (h : rlook L m = rlook (L.drop i) m) (hx : L[i]? = some x) (e : x.1 = m) : rlook L m = some x.2 := by
  rw [h, drop_get hx, rlook, if_pos e]
theorem rlook_step {L : List Row} {m : List Nat} {i : Nat} {x : Row} (h : rlook L m = rlook (L.drop i) m) (hx : L[i]? = some x) (e : ¬ x.1 = m) : rlook L m = rlook (L.drop (i + 1)) m := by
  rw [h, drop_get hx, rlook, if_neg e]
theorem rlook_end {L : List Row} {m : List Nat} {i : Nat} (h : rlook L m = rlook (L.drop i) m) (hi : ¬ i < L.length) : rlook L m = none := by
  rw [h, List.drop_eq_nil_of_le (by omega)]; rfl
theorem rdel_in {L : List Row} {m : List Nat} {i : Nat} {x : Row} (hx : L[i]? = some x) (e : x.1 ≠ m) : rdel (L.take (i + 1)) m = rdel (L.take i) m ++ [x] := by
  rw [take_snoc hx]; unfold rdel; rw [List.filter_append]; simp [e]
theorem rdel_out {L : List Row} {m : List Nat} {i : Nat} {x : Row} (hx : L[i]? = some x) (e : ¬ x.1 ≠ m) : rdel (L.take (i + 1)) m = rdel (L.take i) m := by
  rw [take_snoc hx]; unfold rdel; rw [List.filter_append]; simp [e]

theorem RGet (b : Nat) (A : Option Addr) (c : Nat) (L : List Row) (hA : L = [] ∨ ∃ b o, A = some (ad b o)) (hL : ∀ x ∈ L, Bys 6 x.1) (hn : L.length ≤ 1000) (m : List Nat) (hb : Bys 6 m) : FSpec Tryd.prog 31 #[.pointer (some (ad b 0)), .string (tx m)] ((sep (cel b [(.slice A (L).length c)] 64) (Own 76 2 (.slice A (L).length c) (L).length ((L).flatMap encR)))) (fun _ : Unit => True) (fun _ => .tuple #[.int .i64 ((rlook L m).getD 0), .bool (rlook L m).isSome]) (fun _ => (sep (cel b [(.slice A (L).length c)] 64) (Own 76 2 (.slice A (L).length c) (L).length ((L).flatMap encR)))) := by
  refine FSpec.enter' Tryd.func31 rfl Tryd.ntmps31 rfl fun σ F => ?_
  refine J_seq ?_
  refine J_region ?_
  refine L_v (opv_assign rfl) rfl ?_
  refine L_v (opv_assign rfl) rfl ?_
  refine L_nil ?_
  refine K_then ?_
  refine J_seq ?_
  refine J_seq ?_
  refine J_region ?_
  refine L_v (opv_assign rfl) rfl ?_
  refine L_nil ?_
  refine K_then ?_
  refine J_block ?_
  refine J_loop (X := Nat) (fun i => [(0, .pointer (some (ad b 0))), (1, .string (tx m)), (6, .int .i64 i)]) (fun i => (sep ((sep (cel b [(.slice A (L).length c)] 64) (Own 76 2 (.slice A (L).length c) (L).length ((L).flatMap encR)))) (F))) (fun i => i ≤ L.length ∧ rlook L m = rlook (L.drop i) m) (fun i => L.length - i) (0) ⟨Nat.zero_le _, rfl⟩ ⟨rfl, rfl, rfl, trivial⟩ Ent.take (fun i hi => ?_)
  refine J_seq ?_
  refine J_seq ?_
  refine J_region ?_
  refine L_v (opv_move rfl) rfl ?_
  refine L_v (opv_move rfl) rfl ?_
  refine L_v (opv_nilCheck rfl) rfl ?_
  first
    | refine L_v (opv_fieldAddr0 rfl) rfl ?_
    | refine L_v (opv_fieldAddr rfl) rfl ?_
  refine L_v (opv_load rfl (Rd.look rfl)) rfl ?_
  first
    | refine L_v (opv_lenL rfl) rfl ?_
    | refine L_v (opv_lenS rfl) rfl ?_
  refine L_v (opv_lss rfl rfl) rfl ?_
  refine L_nil ?_
  refine K_then ?_
  refine J_cond rfl (fun h1 => ?_) (fun h1 => ?_)
  · obtain ⟨x, hx, hm⟩ := get_lt (l := L) (i := i) (by omega)
    obtain ⟨b1, o1, rfl⟩ : ∃ b o, A = some (ad b o) := by rcases hA with h | h; (rw [h] at hx; simp at hx); exact h
    refine J_skip ?_
    refine K_then ?_
    refine J_seq ?_
    refine J_block ?_
    refine J_seq ?_
    refine J_region ?_
    refine L_v (opv_move rfl) rfl ?_
    refine L_v (opv_nilCheck rfl) rfl ?_
    first
      | refine L_v (opv_fieldAddr0 rfl) rfl ?_
      | refine L_v (opv_fieldAddr rfl) rfl ?_
    refine L_v (opv_load rfl (Rd.look rfl)) rfl ?_
    refine L_v (opv_move rfl) rfl ?_
    first
      | refine L_v (opv_indexAddr rfl rfl (by omega)) rfl ?_
      | refine L_v (opv_indexAddrA rfl rfl (by omega)) rfl ?_
    first
      | refine L_v (opv_fieldAddr0 rfl) rfl ?_
      | refine L_v (opv_fieldAddr rfl) rfl ?_
    refine L_v (opv_load rfl (Rd.of_take (S := Own 76 2 (.slice (some (ad b1 o1)) L.length c) L.length (L.flatMap encR)) ((RdS.own (m := 2) (e := 76) (c := c) encR_len (.inr ⟨b1, o1, rfl⟩)).rd b1 o1 rfl i x 0 _ hx rfl))) rfl ?_
    refine L_v (opv_move rfl) rfl ?_
    first
      | refine L_v (opv_eql rfl rfl) rfl ?_
      | refine L_v (opv_eqlS rfl rfl) rfl ?_
      | refine L_v (opv_eqlNil rfl rfl) rfl ?_
      | refine L_v (opv_eqlB rfl rfl) rfl ?_
    refine L_nil ?_
    refine K_then ?_
    refine J_cond rfl (fun h2 => ?_) (fun h2 => ?_)
    · refine J_seq ?_
      refine J_region ?_
      refine L_v (opv_move rfl) rfl ?_
      refine L_v (opv_nilCheck rfl) rfl ?_
      first
        | refine L_v (opv_fieldAddr0 rfl) rfl ?_
        | refine L_v (opv_fieldAddr rfl) rfl ?_
      refine L_v (opv_load rfl (Rd.look rfl)) rfl ?_
      refine L_v (opv_move rfl) rfl ?_
      first
        | refine L_v (opv_indexAddr rfl rfl (by omega)) rfl ?_
        | refine L_v (opv_indexAddrA rfl rfl (by omega)) rfl ?_
      first
        | refine L_v (opv_fieldAddr0 rfl) rfl ?_
        | refine L_v (opv_fieldAddr rfl) rfl ?_
      refine L_v (opv_load rfl (Rd.of_take (S := Own 76 2 (.slice (some (ad b1 o1)) L.length c) L.length (L.flatMap encR)) ((RdS.own (m := 2) (e := 76) (c := c) encR_len (.inr ⟨b1, o1, rfl⟩)).rd b1 o1 rfl i x 1 _ hx rfl))) rfl ?_
      refine L_v (opv_assign rfl) rfl ?_
      refine L_v (opv_assign rfl) rfl ?_
      refine L_nil ?_
      refine K_then ?_
      refine J_ret ?_
      refine K_block_ret ?_
      refine K_then_ret ?_
      refine K_then_ret ?_
      refine K_block_ret ?_
      refine K_then_ret ?_
      have hv := rlook_hit hi.2 hx (tx_inj (hL x hm) hb (by assumption))
      exact K_ret2 rfl rfl rfl () trivial (by rw [hv]; rfl) Ent.take
    · refine J_skip ?_
      refine K_block ?_
      refine K_then ?_
      refine J_region ?_
      refine L_v (opv_move rfl) rfl ?_
      first
        | refine L_v (opv_add64 rfl rfl (by omega)) rfl ?_
        | refine L_v (opv_addS rfl rfl (by omega)) rfl ?_
        | refine L_v (opv_add rfl rfl) rfl ?_
      refine L_v (opv_assign rfl) rfl ?_
      refine L_nil ?_
      exact K_loop ((i + 1)) ⟨by omega, rlook_step hi.2 hx (fun e => (show ¬ tx x.1 = tx m by assumption) (by rw [e]))⟩ (by omega) ⟨rfl, rfl, rfl, trivial⟩ Ent.take
  · refine J_exit ?_
    refine K_then_exit ?_
    refine K_then_exit ?_
    refine K_block_here ?_
    refine K_then ?_
    refine J_seq ?_
    refine J_region ?_
    refine L_v (opv_assign rfl) rfl ?_
    refine L_v (opv_assign rfl) rfl ?_
    refine L_nil ?_
    refine K_then ?_
    refine J_ret ?_
    have hv := rlook_end hi.2 (by omega)
    exact K_ret2 rfl rfl rfl () trivial (by rw [hv]; rfl) Ent.take

set_option maxHeartbeats 600000 in
theorem RDrop (b : Nat) (A : Option Addr) (c : Nat) (L : List Row) (hA : L = [] ∨ ∃ b o, A = some (ad b o)) (hL : ∀ x ∈ L, Bys 6 x.1) (hn : L.length ≤ 1000) (m : List Nat) (hb : Bys 6 m) : FSpec Tryd.prog 33 #[.pointer (some (ad b 0)), .string (tx m)] ((sep (cel b [(.slice A (L).length c)] 64) (Own 76 2 (.slice A (L).length c) (L).length ((L).flatMap encR)))) (fun y : Option Addr × Nat => rdel L m = [] ∨ ∃ b o, y.1 = some (ad b o)) (fun y => .bool (decide (((rdel L m).length : Int) < (L.length : Int)))) (fun y => (sep (cel b [(.slice y.1 (rdel L m).length y.2)] 64) (Own 76 2 (.slice y.1 (rdel L m).length y.2) (rdel L m).length ((rdel L m).flatMap encR)))) := by
  refine FSpec.enter' Tryd.func33 rfl Tryd.ntmps33 rfl fun σ F => ?_
  refine J_imp (sep (Own 76 2 (.slice none 0 0) 0 []) (sep ((sep (cel b [(.slice A (L).length c)] 64) (Own 76 2 (.slice A (L).length c) (L).length ((L).flatMap encR)))) (F))) (Ent.trans (Ent.of (emp_sep _).symm) ((Own.nil 76 2).frame _)) ?_
  refine J_seq ?_
  refine J_region ?_
  refine L_v (opv_assign rfl) rfl ?_
  refine L_nil ?_
  refine K_then ?_
  refine J_seq ?_
  refine J_region ?_
  refine L_v (opv_assign rfl) rfl ?_
  refine L_nil ?_
  refine K_then ?_
  refine J_seq ?_
  refine J_seq ?_
  refine J_region ?_
  refine L_v (opv_assign rfl) rfl ?_
  refine L_nil ?_
  refine K_then ?_
  refine J_block ?_
  refine J_loop (X := Nat × Option Addr × Nat) (fun z => [(0, .pointer (some (ad b 0))), (1, .string (tx m)), (5, .slice z.2.1 (rdel (L.take z.1) m).length z.2.2), (6, .int .i64 z.1)]) (fun z => (sep (Own 76 2 (.slice z.2.1 (rdel (L.take z.1) m).length z.2.2) (rdel (L.take z.1) m).length ((rdel (L.take z.1) m).flatMap encR)) (sep ((sep (cel b [(.slice A (L).length c)] 64) (Own 76 2 (.slice A (L).length c) (L).length ((L).flatMap encR)))) (F)))) (fun z => z.1 ≤ L.length) (fun z => L.length - z.1) ((0, none, 0)) (Nat.zero_le _) ⟨rfl, rfl, rfl, rfl, trivial⟩ (by show Ent _ (sep (Own 76 2 (.slice none 0 0) 0 []) (sep ((sep (cel b [(.slice A (L).length c)] 64) (Own 76 2 (.slice A (L).length c) (L).length ((L).flatMap encR)))) (F))); exact Ent.take) (fun z hz => ?_)
  have hdl : (rdel (L.take z.1) m).length ≤ z.1 := Nat.le_trans (List.length_filter_le _ _) (by rw [List.length_take]; omega)
  refine J_seq ?_
  refine J_seq ?_
  refine J_region ?_
  refine L_v (opv_move rfl) rfl ?_
  refine L_v (opv_move rfl) rfl ?_
  refine L_v (opv_nilCheck rfl) rfl ?_
  first
    | refine L_v (opv_fieldAddr0 rfl) rfl ?_
    | refine L_v (opv_fieldAddr rfl) rfl ?_
  refine L_v (opv_load rfl (Rd.look rfl)) rfl ?_
  first
    | refine L_v (opv_lenL rfl) rfl ?_
    | refine L_v (opv_lenS rfl) rfl ?_
  refine L_v (opv_lss rfl rfl) rfl ?_
  refine L_nil ?_
  refine K_then ?_
  refine J_cond rfl (fun h1 => ?_) (fun h1 => ?_)
  · obtain ⟨x, hx, hm⟩ := get_lt (l := L) (i := z.1) (by omega)
    obtain ⟨b1, o1, rfl⟩ : ∃ b o, A = some (ad b o) := by rcases hA with h | h; (rw [h] at hx; simp at hx); exact h
    refine J_skip ?_
    refine K_then ?_
    refine J_seq ?_
    refine J_block ?_
    refine J_seq ?_
    refine J_region ?_
    refine L_v (opv_move rfl) rfl ?_
    refine L_v (opv_nilCheck rfl) rfl ?_
    first
      | refine L_v (opv_fieldAddr0 rfl) rfl ?_
      | refine L_v (opv_fieldAddr rfl) rfl ?_
    refine L_v (opv_load rfl (Rd.look rfl)) rfl ?_
    refine L_v (opv_move rfl) rfl ?_
    first
      | refine L_v (opv_indexAddr rfl rfl (by omega)) rfl ?_
      | refine L_v (opv_indexAddrA rfl rfl (by omega)) rfl ?_
    first
      | refine L_v (opv_fieldAddr0 rfl) rfl ?_
      | refine L_v (opv_fieldAddr rfl) rfl ?_
    refine L_v (opv_load rfl (Rd.of_take (S := Own 76 2 (.slice (some (ad b1 o1)) L.length c) L.length (L.flatMap encR)) ((RdS.own (m := 2) (e := 76) (c := c) encR_len (.inr ⟨b1, o1, rfl⟩)).rd b1 o1 rfl z.1 x 0 _ hx rfl))) rfl ?_
    refine L_v (opv_move rfl) rfl ?_
    first
      | refine L_v (opv_neq rfl rfl) rfl ?_
      | refine L_v (opv_neqS rfl rfl) rfl ?_
      | refine L_v (opv_neqNil rfl rfl) rfl ?_
      | refine L_v (opv_neqB rfl rfl) rfl ?_
    refine L_nil ?_
    refine K_then ?_
    refine J_cond rfl (fun h2 => ?_) (fun h2 => ?_)
    · have hq := rdel_in (m := m) hx (fun e => h2 (by rw [e]))
      refine J_region ?_
      refine L_v (opv_move rfl) rfl ?_
      refine L_v (opv_move rfl) rfl ?_
      refine L_v (opv_nilCheck rfl) rfl ?_
      first
        | refine L_v (opv_fieldAddr0 rfl) rfl ?_
        | refine L_v (opv_fieldAddr rfl) rfl ?_
      refine L_v (opv_load rfl (Rd.look rfl)) rfl ?_
      refine L_v (opv_move rfl) rfl ?_
      first
        | refine L_v (opv_indexAddr rfl rfl (by omega)) rfl ?_
        | refine L_v (opv_indexAddrA rfl rfl (by omega)) rfl ?_
      refine L_v (opv_loadN (vs := encR x) rfl rfl (fun j u hj => Rd.of_take (S := Own 76 2 (.slice (some (ad b1 o1)) L.length c) L.length (L.flatMap encR)) ((RdS.own (m := 2) (e := 76) (c := c) encR_len (.inr ⟨b1, o1, rfl⟩)).rd b1 o1 rfl z.1 x j u hx hj))) rfl ?_
      refine L_x rfl (opx_buildSlice1 (m := 2) (l := encR x) rfl rfl (by omega) (by omega) rfl) (fun b35 _ => ?_)
      refine L_x rfl (opx_append (m := 2) (B := 24) rfl rfl (Src.lit) rfl (by omega) rfl (encR_one x) (by unfold maxLen; omega) (by omega) rfl) (fun y36 _ => ?_)
      refine L_v (opv_assign rfl) rfl ?_
      refine L_nil ?_
      refine K_block ?_
      refine K_then ?_
      refine J_region ?_
      refine L_v (opv_move rfl) rfl ?_
      first
        | refine L_v (opv_add64 rfl rfl (by omega)) rfl ?_
        | refine L_v (opv_addS rfl rfl (by omega)) rfl ?_
        | refine L_v (opv_add rfl rfl) rfl ?_
      refine L_v (opv_assign rfl) rfl ?_
      refine L_nil ?_
      exact K_loop ((z.1 + 1, y36)) (by show z.1 + 1 ≤ _; omega) (by show _ - (z.1 + 1) < _; omega) ⟨rfl, rfl, (by show some (Value.slice y36.1 ((rdel (L.take z.1) m).length + 1) y36.2) = some (Value.slice y36.1 (rdel (L.take (z.1 + 1)) m).length y36.2); rw [hq, len_snoc]), rfl, trivial⟩ (by show Ent _ (sep (Own 76 2 (.slice y36.1 (rdel (L.take (z.1 + 1)) m).length y36.2) (rdel (L.take (z.1 + 1)) m).length ((rdel (L.take (z.1 + 1)) m).flatMap encR)) (sep ((sep (cel b [(.slice (some (ad b1 o1)) (L).length c)] 64) (Own 76 2 (.slice (some (ad b1 o1)) (L).length c) (L).length ((L).flatMap encR)))) (F))); rw [hq, len_snoc, flatR_snoc]; exact Ent.take)
    · have hq := rdel_out (m := m) hx (fun e => e (tx_inj (hL x hm) hb (Classical.not_not.1 h2)))
      refine J_skip ?_
      refine K_block ?_
      refine K_then ?_
      refine J_region ?_
      refine L_v (opv_move rfl) rfl ?_
      first
        | refine L_v (opv_add64 rfl rfl (by omega)) rfl ?_
        | refine L_v (opv_addS rfl rfl (by omega)) rfl ?_
        | refine L_v (opv_add rfl rfl) rfl ?_
      refine L_v (opv_assign rfl) rfl ?_
      refine L_nil ?_
      exact K_loop ((z.1 + 1, z.2)) (by show z.1 + 1 ≤ _; omega) (by show _ - (z.1 + 1) < _; omega) ⟨rfl, rfl, (by show some (Value.slice z.2.1 (rdel (L.take z.1) m).length z.2.2) = some (Value.slice z.2.1 (rdel (L.take (z.1 + 1)) m).length z.2.2); rw [hq]), rfl, trivial⟩ (by show Ent _ (sep (Own 76 2 (.slice z.2.1 (rdel (L.take (z.1 + 1)) m).length z.2.2) (rdel (L.take (z.1 + 1)) m).length ((rdel (L.take (z.1 + 1)) m).flatMap encR)) (sep ((sep (cel b [(.slice (some (ad b1 o1)) (L).length c)] 64) (Own 76 2 (.slice (some (ad b1 o1)) (L).length c) (L).length ((L).flatMap encR)))) (F))); rw [hq]; exact Ent.take)
  · rw [show L.take z.1 = L from List.take_of_length_le (by omega)]
    refine J_exit ?_
    refine K_then_exit ?_
    refine K_then_exit ?_
    refine K_block_here ?_
    refine K_then ?_
    refine J_seq ?_
    refine J_region ?_
    refine L_v (opv_move rfl) rfl ?_
    first
      | refine L_v (opv_lenL rfl) rfl ?_
      | refine L_v (opv_lenS rfl) rfl ?_
    refine L_v (opv_move rfl) rfl ?_
    refine L_v (opv_nilCheck rfl) rfl ?_
    first
      | refine L_v (opv_fieldAddr0 rfl) rfl ?_
      | refine L_v (opv_fieldAddr rfl) rfl ?_
    refine L_v (opv_load rfl (Rd.look rfl)) rfl ?_
    first
      | refine L_v (opv_lenL rfl) rfl ?_
      | refine L_v (opv_lenS rfl) rfl ?_
    refine L_v (opv_lss rfl rfl) rfl ?_
    refine L_v (opv_assign rfl) rfl ?_
    refine L_nil ?_
    refine K_then ?_
    refine J_seq ?_
    refine J_region ?_
    refine L_v (opv_move rfl) rfl ?_
    refine L_v (opv_move rfl) rfl ?_
    refine L_v (opv_nilCheck rfl) rfl ?_
    first
      | refine L_v (opv_fieldAddr0 rfl) rfl ?_
      | refine L_v (opv_fieldAddr rfl) rfl ?_
    refine L_x rfl (opx_store rfl rfl rfl (by simp [Value.oneCell'])) (fun _ _ => ?_)
    refine L_nil ?_
    refine K_then ?_
    refine J_seq ?_
    refine J_region ?_
    refine L_v (opv_move rfl) rfl ?_
    refine L_v (opv_assign rfl) rfl ?_
    refine L_nil ?_
    refine K_then ?_
    refine J_ret ?_
    refine K_know (fun w hs => own_nonnil hs.drop) fun hA1 => ?_
    exact K_ret1 rfl rfl z.2 (hA1.imp (fun h => List.eq_nil_of_length_eq_zero h.2.2.1) id) rfl Ent.take

end Go.Proofs.YtkkoepnljofhpaaDoor
