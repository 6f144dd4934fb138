/- The law AddrBooks, proved by a walk over its code; it is used by the texts that import this one. -/
import Derived.Test.YtkkoepnljofhpaaDoorBe
import Derived.Test.YtkkoepnljofhpaaDoorBb
import Derived.Test.YtkkoepnljofhpaaDoorH
namespace Go.Proofs.YtkkoepnljofhpaaDoor
open Go.SLA
set_option maxRecDepth 100000
set_option linter.unusedVariables false
set_option linter.unusedSimpArgs false
attribute [local irreducible] J L K QL Rg FSpec OpV OpX Rd Back

attribute [local instance] Classical.propDecidable
abbrev Ltr (L : List Row) : Prop := L.Pairwise fun a b => numM a.1 < numM b.1
/-- The program's book and the document's hold the same. -/
structure Same (g : List Nat → Option Int) (L : List Row) : Prop where
  lt : Ltr L
  bys : ∀ x ∈ L, Bys 6 x.1
  look : ∀ l, Bys 6 l → g l = rlook L l
theorem Same.nil : Same (fun _ => none) [] := ⟨List.Pairwise.nil, fun x h => (List.not_mem_nil h).elim, fun _ _ => rfl⟩
theorem rlook_rdel_same (L : List Row) (m : List Nat) : rlook (rdel L m) m = none := by
  induction L with
  | nil => rfl
  | cons x L ih =>
    unfold rdel at ih ⊢
    by_cases h : x.1 = m
    · rw [List.filter_cons_of_neg (by simp [h])]; exact ih
    · rw [List.filter_cons_of_pos (by simp [h]), rlook, if_neg h]; exact ih
theorem rlook_rdel_other (L : List Row) {m l : List Nat} (hl : l ≠ m) : rlook (rdel L m) l = rlook L l := by
  induction L with
  | nil => rfl
  | cons x L ih =>
    unfold rdel at ih ⊢
    by_cases h : x.1 = m
    · rw [List.filter_cons_of_neg (by simp [h]), ih, rlook, if_neg (by rw [h]; exact fun e => hl e.symm)]
    · rw [List.filter_cons_of_pos (by simp [h]), rlook, rlook, ih]
theorem rlook_none : ∀ {L : List Row} {l : List Nat}, (∀ x ∈ L, x.1 ≠ l) → rlook L l = none
  | [], _, _ => rfl
  | x :: L, l, h => by rw [rlook, if_neg (h x List.mem_cons_self)]; exact rlook_none (fun y hy => h y (List.mem_cons_of_mem _ hy))
theorem rlook_some : ∀ {L : List Row} {l : List Nat}, (rlook L l).isSome = true → ∃ x ∈ L, x.1 = l
  | [], _, h => by cases h
  | x :: L, l, h => by
    rw [rlook] at h
    split at h
    · rename_i e; exact ⟨x, List.mem_cons_self, e⟩
    · obtain ⟨y, hy, e⟩ := rlook_some h; exact ⟨y, List.mem_cons_of_mem _ hy, e⟩
theorem rlook_mem : ∀ {L : List Row} {x : Row}, x ∈ L → (rlook L x.1).isSome = true
  | y :: L, x, h => by
    rw [rlook]
    split
    · rfl
    · rename_i e
      rcases List.mem_cons.1 h with rfl | h
      · exact absurd rfl e
      · exact rlook_mem h
theorem mem_ins : ∀ {L : List Row} {r x : Row}, x ∈ ins L r ↔ x = r ∨ x ∈ L
  | [], r, x => by simp [ins]
  | y :: L, r, x => by
    rw [ins]
    split
    · simp
    · rw [List.mem_cons, mem_ins, List.mem_cons]
      constructor
      · rintro (h | h | h) <;> simp [h]
      · rintro (h | h | h) <;> simp [h]
theorem ltr_ins : ∀ {L : List Row} {r : Row}, Ltr L → (∀ x ∈ L, numM x.1 ≠ numM r.1) → Ltr (ins L r)
  | [], r, _, _ => by simp [ins, Ltr]
  | y :: L, r, h, hn => by
    rw [ins]
    have hy := List.pairwise_cons.1 h
    split
    · rename_i hlt
      refine List.pairwise_cons.2 ⟨fun a ha => ?_, h⟩
      rcases List.mem_cons.1 ha with rfl | ha
      · exact hlt
      · exact Nat.lt_trans hlt (hy.1 a ha)
    · rename_i hlt
      refine List.pairwise_cons.2 ⟨fun a ha => ?_, ltr_ins hy.2 (fun x hx => hn x (List.mem_cons_of_mem _ hx))⟩
      rcases mem_ins.1 ha with rfl | ha
      · have := hn y List.mem_cons_self; omega
      · exact hy.1 a ha
theorem rlook_ins_same : ∀ {L : List Row} {m : List Nat} {n : Int}, (∀ x ∈ L, x.1 ≠ m) → rlook (ins L (m, n)) m = some n
  | [], m, n, _ => by simp [ins, rlook]
  | y :: L, m, n, h => by
    rw [ins]
    split
    · simp [rlook]
    · rw [rlook, if_neg (h y List.mem_cons_self)]; exact rlook_ins_same (fun x hx => h x (List.mem_cons_of_mem _ hx))
theorem rlook_ins_other : ∀ {L : List Row} {m l : List Nat} {n : Int}, l ≠ m → rlook (ins L (m, n)) l = rlook L l
  | [], m, l, n, h => by
    show (if m = l then some n else none) = none
    rw [if_neg (fun e => h e.symm)]
  | y :: L, m, l, n, h => by
    rw [ins]
    split
    · rw [rlook, if_neg (fun e => h e.symm)]
    · rw [rlook, rlook, rlook_ins_other h]
theorem Same.del {g : List Nat → Option Int} {L : List Row} (h : Same g L) (m : List Nat) : Same (gdel g m) (rdel L m) := by
  refine ⟨h.lt.sublist List.filter_sublist, fun x hx => h.bys x (List.mem_filter.1 hx).1, fun l hl => ?_⟩
  by_cases e : l = m
  · subst e; rw [gdel_same, rlook_rdel_same]
  · rw [gdel_other e, rlook_rdel_other L e, h.look l hl]
theorem rdel_ne {L : List Row} {m : List Nat} : ∀ x ∈ rdel L m, x.1 ≠ m := fun x hx => of_decide_eq_true (List.mem_filter.1 hx).2
theorem Same.put {g : List Nat → Option Int} {L : List Row} (h : Same g L) {m : List Nat} (hb : Bys 6 m) (n : Int) : Same (gput g m n) (ins (rdel L m) (m, n)) := by
  have hd := h.del m
  refine ⟨ltr_ins hd.lt (fun x hx e => rdel_ne x hx (numM_inj (hd.bys x hx).2 hb.2 (by rw [(hd.bys x hx).1, hb.1]) e)), fun x hx => ?_, fun l hl => ?_⟩
  · rcases mem_ins.1 hx with rfl | hx
    · exact hb
    · exact hd.bys x hx
  · by_cases e : l = m
    · subst e; rw [gput_same, rlook_ins_same rdel_ne]
    · rw [gput_other e, rlook_ins_other e, rlook_rdel_other L e, h.look l hl]
theorem ins_len : ∀ (L : List Row) (r : Row), (ins L r).length = L.length + 1
  | [], r => rfl
  | x :: L, r => by
    rw [ins]
    split
    · rfl
    · rw [List.length_cons, ins_len L r, List.length_cons]
theorem rdel_len (L : List Row) (m : List Nat) : (rdel L m).length ≤ L.length := List.length_filter_le _ _
theorem Same.some_ {g : List Nat → Option Int} {L : List Row} (h : Same g L) {m : List Nat} (hb : Bys 6 m) : (g m).isSome = decide (((rdel L m).length : Int) < (L.length : Int)) := by
  rw [h.look m hb]
  cases hs : (rlook L m).isSome with
  | true =>
    obtain ⟨x, hx, e⟩ := rlook_some hs
    have hne : (rdel L m).length ≠ L.length := fun hl => by
      have := (List.length_filter_eq_length_iff.1 hl) x hx
      simp [e] at this
    have := rdel_len L m
    rw [decide_eq_true (by omega)]
  | false =>
    have hall : rdel L m = L := List.filter_eq_self.2 fun x hx => by
      refine decide_eq_true fun e => ?_
      have := rlook_mem hx
      rw [e, hs] at this
      cases this
    rw [hall, decide_eq_false (by omega)]
theorem same_sorted : ∀ {a b : List (List Nat)}, a.Pairwise (fun x y => numM x < numM y) → b.Pairwise (fun x y => numM x < numM y) → (∀ x, x ∈ a ↔ x ∈ b) → a = b
  | [], [], _, _, _ => rfl
  | [], y :: b, _, _, h => absurd ((h y).2 List.mem_cons_self) List.not_mem_nil
  | x :: a, [], _, _, h => absurd ((h x).1 List.mem_cons_self) List.not_mem_nil
  | x :: a, y :: b, ha, hb, h => by
    have pa := List.pairwise_cons.1 ha
    have pb := List.pairwise_cons.1 hb
    have hxy : x = y := by
      rcases List.mem_cons.1 ((h x).1 List.mem_cons_self) with e | hx
      · exact e
      · rcases List.mem_cons.1 ((h y).2 List.mem_cons_self) with e | hy
        · exact e.symm
        · have := pa.1 y hy
          have := pb.1 x hx
          omega
    subst hxy
    congr 1
    refine same_sorted pa.2 pb.2 fun z => ?_
    constructor
    · intro hz
      rcases List.mem_cons.1 ((h z).1 (List.mem_cons_of_mem _ hz)) with rfl | hz'
      · exact absurd (pa.1 z hz) (Nat.lt_irrefl _)
      · exact hz'
    · intro hz
      rcases List.mem_cons.1 ((h z).2 (List.mem_cons_of_mem _ hz)) with rfl | hz'
      · exact absurd (pb.1 z hz) (Nat.lt_irrefl _)
      · exact hz'
theorem Same.all {g : List Nat → Option Int} {L : List Row} (h : Same g L) {d : List M6} (hd : AllG g d) : d.map (·.1) = L.map (·.1) := by
  refine same_sorted (List.pairwise_map.2 hd.1) (List.pairwise_map.2 h.lt) fun z => ?_
  constructor
  · intro hz
    obtain ⟨m, hm, rfl⟩ := List.mem_map.1 hz
    have := (hd.2 m).1 hm
    rw [h.look m.1 m.2] at this
    obtain ⟨x, hx, e⟩ := rlook_some this
    exact List.mem_map.2 ⟨x, hx, e⟩
  · intro hz
    obtain ⟨x, hx, rfl⟩ := List.mem_map.1 hz
    refine List.mem_map.2 ⟨m6 x.1 (h.bys x hx), (hd.2 _).2 ?_, rfl⟩
    show (g x.1).isSome = true
    rw [h.look _ (h.bys x hx)]
    exact rlook_mem hx
theorem Same.at_ {g : List Nat → Option Int} {L : List Row} (h : Same g L) {d : List M6} (hd : AllG g d) {k : Nat} {m : M6} (hk : d[k]? = some m) : ∃ x, L[k]? = some x ∧ x.1 = m.1 := by
  have e := congrArg (fun l : List (List Nat) => l[k]?) (h.all hd)
  simp only [List.getElem?_map, hk, Option.map_some] at e
  cases hx : L[k]? with
  | none => rw [hx] at e; cases e
  | some x => rw [hx] at e; exact ⟨x, rfl, (Option.some.inj e).symm⟩
theorem encOpA_len {x : OpA} (h : Bys 6 x.m) : (encOpA x).length = 8 := by unfold encOpA; rw [List.length_cons, List.length_append, enc8_len h]; rfl
theorem encOpA_one (x : OpA) : ∀ u ∈ encOpA x, u.oneCell' = true := by
  intro u hu
  unfold encOpA at hu
  rcases List.mem_cons.1 hu with rfl | hu
  · rfl
  · rcases List.mem_append.1 hu with hu | hu
    · exact enc8_one _ u hu
    · rw [List.mem_singleton.1 hu]; rfl
theorem opM_get {x : OpA} {j : Nat} {u : Value} (hj : (x.m.map enc8)[j]? = some u) : (encOpA x)[1 + j]? = some u := by
  have hjl : j < (x.m.map enc8).length := (List.getElem?_eq_some_iff.1 hj).1
  unfold encOpA
  rw [Nat.add_comm 1 j, List.getElem?_cons_succ, List.getElem?_append_left hjl]; exact hj
theorem opN_get {x : OpA} (hb : Bys 6 x.m) : (encOpA x)[7]? = some (.int .i64 x.n) := by
  unfold encOpA
  rw [List.getElem?_cons_succ, List.getElem?_append_right (by rw [enc8_len hb]; exact Nat.le_refl _), enc8_len hb]; rfl
theorem neb_eq {p q : Bool} (h : p = q) : Value.bool (p != q) = .bool false := by rw [h]; cases q <;> rfl

set_option maxHeartbeats 2000000 in
theorem AddrBooks_spec (W : World) (hW : W.cell? (ad 7 15) = some (.int .u8 4)) (A : Option Addr) (c : Nat) (xs : List OpA) (hR : RdS (old W) encOpA 8 A xs) (hn : xs.length ≤ 9223372036854775807) (hx : ∀ x ∈ xs, okOpA x) : FSpec Tryd.prog 6 #[.slice A xs.length c] (old W) (fun _ : Unit => True) (fun _ => .bool true) (fun _ => old W) := by
  refine FSpec.enter' Tryd.func6 rfl Tryd.ntmps6 rfl fun σ F => ?_
  refine J_seq ?_
  refine J_region ?_
  refine L_v (opv_assign rfl) rfl ?_
  refine L_nil ?_
  refine K_then ?_
  refine J_seq ?_
  refine J_region ?_
  refine L_v (opv_build rfl) rfl ?_
  refine L_x rfl (opx_box (l := [.map none]) rfl rfl) (fun b18 _ => ?_)
  refine L_v (opv_assign rfl) rfl ?_
  refine L_nil ?_
  refine K_then ?_
  refine J_seq ?_
  refine J_region ?_
  refine L_v (opv_build rfl) rfl ?_
  refine L_x rfl (opx_box (l := [.slice none 0 0]) rfl rfl) (fun b20 _ => ?_)
  refine L_v (opv_assign rfl) rfl ?_
  refine L_nil ?_
  refine K_then ?_
  refine J_seq ?_
  refine J_seq ?_
  refine J_imp (sep (BookQ b18 (fun _ => none) []) (sep ((sep (cel b20 [.slice none 0 0] 64) (Own 76 2 (.slice none 0 0) 0 []))) (sep (old W) (F)))) (Ent.trans (Ent.takes (Q := cel b18 [.map none] 60) (R := (sep (cel b20 [.slice none 0 0] 64) (sep (old W) (F))))) (Ent.trans (BookQ.none_.frame _) (Ent.frame_left (Ent.trans (Ent.trans (Ent.of (emp_sep _).symm) ((Own.nil 76 2).frame _)) Ent.take) _))) ?_
  refine J_region ?_
  refine L_v (opv_assign rfl) rfl ?_
  refine L_nil ?_
  refine K_then ?_
  refine J_block ?_
  refine J_loop (X := Nat × (List Nat → Option Int) × List (List Nat) × List Row × Option Addr × Nat) (fun z => [(0, .slice A xs.length c), (3, .pointer (some (ad b18 0))), (4, .pointer (some (ad b20 0))), (5, .int .i64 z.1)]) (fun z => (sep (BookQ b18 z.2.1 z.2.2.1) (sep ((sep (cel b20 [(.slice z.2.2.2.2.1 (z.2.2.2.1).length z.2.2.2.2.2)] 64) (Own 76 2 (.slice z.2.2.2.2.1 (z.2.2.2.1).length z.2.2.2.2.2) (z.2.2.2.1).length ((z.2.2.2.1).flatMap encR)))) (sep (old W) (F))))) (fun z => z.1 ≤ xs.length ∧ z.1 ≤ 100 ∧ Same z.2.1 z.2.2.2.1 ∧ (z.2.2.2.1 = [] ∨ ∃ b o, z.2.2.2.2.1 = some (ad b o)) ∧ z.2.2.1.length ≤ z.1 ∧ z.2.2.2.1.length ≤ z.1) (fun z => xs.length - z.1) ((0, fun _ => none, [], [], none, 0)) ⟨Nat.zero_le _, Nat.zero_le _, Same.nil, .inl rfl, Nat.zero_le _, Nat.zero_le _⟩ ⟨rfl, rfl, rfl, rfl, trivial⟩ (Ent.refl _) (fun z hz => ?_)
  refine J_seq ?_
  refine J_seq ?_
  refine J_region ?_
  refine L_v (opv_move rfl) rfl ?_
  refine L_v (opv_move rfl) rfl ?_
  first
    | refine L_v (opv_lenL rfl) rfl ?_
    | refine L_v (opv_lenS rfl) rfl ?_
  refine L_v (opv_lss rfl rfl) rfl ?_
  refine L_v (opv_move rfl) rfl ?_
  refine L_gt rfl rfl (fun h1 => ?_) (fun h1 => ?_) (fun _ h => by cases h; rfl)
  · refine L_v (opv_move rfl) rfl ?_
    refine L_gt_on h1 rfl rfl ?_
    refine L_v (opv_lss rfl rfl) rfl ?_
    refine L_v (opv_pick_t rfl h1 rfl) rfl ?_
    refine L_nil ?_
    refine K_then ?_
    refine J_cond rfl (fun h2 => ?_) (fun h2 => ?_)
    · obtain ⟨x, hi, hm⟩ := get_lt (l := xs) (i := z.1) (by omega)
      have hxb : Bys 6 x.m := hx x hm
      obtain ⟨b, o, rfl⟩ := hR.nonnil z.1 (by omega)
      have hlk := hz.2.2.1.look x.m hxb
      have hll : z.2.2.2.1.length ≤ 1000 := by omega
      refine J_skip ?_
      refine K_then ?_
      refine J_seq ?_
      refine J_block ?_
      refine J_seq ?_
      refine J_region ?_
      refine L_v (opv_move rfl) rfl ?_
      refine L_v (opv_move rfl) rfl ?_
      first
        | refine L_v (opv_indexAddr rfl rfl (by omega)) rfl ?_
        | refine L_v (opv_indexAddrA rfl rfl (by omega)) rfl ?_
      refine L_v (opv_loadN (vs := encOpA x) rfl (encOpA_len hxb) (fun j u hj => Rd.of_take (S := old W) (hR.rd b o rfl z.1 x j u hi hj))) rfl ?_
      refine L_x rfl (opx_alloc rfl) (fun b6 _ => ?_)
      refine L_x rfl (opx_storeW (m := 8) rfl rfl (encOpA_len hxb) (encOpA_one x) rfl) (fun _ _ => ?_)
      refine L_nil ?_
      refine K_then ?_
      refine J_cut (X := (List Nat → Option Int) × List (List Nat) × List Row × Option Addr × Nat) (fun v => [(0, .slice (some (ad b o)) xs.length c), (3, .pointer (some (ad b18 0))), (4, .pointer (some (ad b20 0))), (5, .int .i64 z.1)]) (fun v => (sep (BookQ b18 v.1 v.2.1) (sep ((sep (cel b20 [(.slice v.2.2.2.1 (v.2.2.1).length v.2.2.2.2)] 64) (Own 76 2 (.slice v.2.2.2.1 (v.2.2.1).length v.2.2.2.2) (v.2.2.1).length ((v.2.2.1).flatMap encR)))) (sep (old W) (F))))) (fun v => Same v.1 v.2.2.1 ∧ (v.2.2.1 = [] ∨ ∃ b o, v.2.2.2.1 = some (ad b o)) ∧ v.2.1.length ≤ (z.1 + 1) ∧ v.2.2.1.length ≤ (z.1 + 1)) ?_ (fun v hv => ?_)
      · refine J_seq ?_
        refine J_region ?_
        first
          | refine L_v (opv_fieldAddr0 rfl) rfl ?_
          | refine L_v (opv_fieldAddr rfl) rfl ?_
        refine L_v (opv_load (v := .int .i64 x.ask) rfl (Rd.look rfl)) rfl ?_
        refine L_nil ?_
        refine K_then ?_
        refine J_block ?_
        refine J_seq ?_
        refine J_region ?_
        first
          | refine L_v (opv_eql rfl rfl) rfl ?_
          | refine L_v (opv_eqlS rfl rfl) rfl ?_
          | refine L_v (opv_eqlNil rfl rfl) rfl ?_
          | refine L_v (opv_eqlB rfl rfl) rfl ?_
        refine L_v (opv_assign rfl) rfl ?_
        refine L_nil ?_
        refine K_then ?_
        refine J_cond rfl (fun h3 => ?_) (fun h3 => ?_)
        · refine J_seq ?_
          refine J_region ?_
          refine L_v (opv_move rfl) rfl ?_
          first
            | refine L_v (opv_fieldAddr0 rfl) rfl ?_
            | refine L_v (opv_fieldAddr rfl) rfl ?_
          refine L_v (opv_loadN (vs := x.m.map enc8) rfl (enc8_len hxb) (fun j u hj => Rd.look (opM_get hj))) rfl ?_
          first
            | refine L_v (opv_fieldAddr0 rfl) rfl ?_
            | refine L_v (opv_fieldAddr rfl) rfl ?_
          refine L_v (opv_load rfl (Rd.look (opN_get hxb))) rfl ?_
          refine L_x rfl (opx_call0 (Put_q b18 z.2.1 z.2.2.1 x.m hxb x.n) rfl rfl rfl) (fun _ _ => ?_)
          refine L_v (opv_move rfl) rfl ?_
          refine L_v (opv_extract (v := .int .i64 ((z.2.1 x.m).getD 0)) rfl rfl) rfl ?_
          refine L_v (opv_extract (v := .bool ((z.2.1 x.m).isSome)) rfl rfl) rfl ?_
          refine L_v (opv_assign rfl) rfl ?_
          refine L_v (opv_assign rfl) rfl ?_
          refine L_nil ?_
          refine K_then ?_
          refine J_seq ?_
          refine J_steps (cel b6 (encOpA x) 66) (cel b6 (encOpA x) 66) [6] Tryd.mixed ?_
          refine R_pure 0 rfl (by kernel_rfl) (by kernel_rfl) (by kernel_rfl) (by kernel_rfl) (.inr ⟨_, Take.eq (A := cel b6 (encOpA x) 66)⟩) (opv_move rfl) rfl ?_
          first
            | refine R_pure 1 rfl (by kernel_rfl) (by kernel_rfl) (by kernel_rfl) (by kernel_rfl) (.inr ⟨_, Take.eq (A := cel b6 (encOpA x) 66)⟩) (opv_fieldAddr0 rfl) rfl ?_
            | refine R_pure 1 rfl (by kernel_rfl) (by kernel_rfl) (by kernel_rfl) (by kernel_rfl) (.inr ⟨_, Take.eq (A := cel b6 (encOpA x) 66)⟩) (opv_fieldAddr rfl) rfl ?_
          refine R_pure 2 rfl (by kernel_rfl) (by kernel_rfl) (by kernel_rfl) (by kernel_rfl) (.inr ⟨_, Take.eq (A := cel b6 (encOpA x) 66)⟩) (opv_loadN (vs := x.m.map enc8) rfl (enc8_len hxb) (fun j u hj => Rd.look (opM_get hj))) rfl ?_
          first
            | refine R_pure 4 rfl (by kernel_rfl) (by kernel_rfl) (by kernel_rfl) (by kernel_rfl) (.inr ⟨_, Take.eq (A := cel b6 (encOpA x) 66)⟩) (opv_fieldAddr0 rfl) rfl ?_
            | refine R_pure 4 rfl (by kernel_rfl) (by kernel_rfl) (by kernel_rfl) (by kernel_rfl) (.inr ⟨_, Take.eq (A := cel b6 (encOpA x) 66)⟩) (opv_fieldAddr rfl) rfl ?_
          refine R_take 5 rfl (by kernel_rfl) (by kernel_rfl) (by kernel_rfl) (by kernel_rfl) (by kernel_rfl) (opv_load rfl (Rd.look (opN_get hxb))) rfl ?_
          refine R_only 3 rfl rfl (by kernel_rfl) (opx_call0 (text_any hxb) rfl rfl rfl) (fun _ _ => ⟨_, Take.eq (A := cel b6 (encOpA x) 66)⟩) (.inr fun _ _ => ⟨_, Take.eq (A := cel b6 (encOpA x) 66)⟩) (fun _ _ => ?_)
          refine Rg_emp ?_
          refine R_only 6 rfl rfl (by kernel_rfl) (opx_call0 (RPut b20 z.2.2.2.2.1 z.2.2.2.2.2 z.2.2.2.1 hz.2.2.2.1 hz.2.2.1.bys hll x.m hxb x.n) rfl rfl rfl) (fun _ _ => ⟨_, Take.eq (A := cel b6 (encOpA x) 66)⟩) (.inl (by kernel_rfl)) (fun q hq => ?_)
          refine R_pure 7 rfl (by kernel_rfl) (by kernel_rfl) (by kernel_rfl) (by kernel_rfl) (.inl (by kernel_rfl)) (opv_move rfl) rfl ?_
          refine R_pure 8 rfl (by kernel_rfl) (by kernel_rfl) (by kernel_rfl) (by kernel_rfl) (.inl (by kernel_rfl)) (opv_extract (v := .int .i64 ((rlook z.2.2.2.1 x.m).getD 0)) rfl rfl) rfl ?_
          refine R_pure 9 rfl (by kernel_rfl) (by kernel_rfl) (by kernel_rfl) (by kernel_rfl) (.inl (by kernel_rfl)) (opv_extract (v := .bool ((rlook z.2.2.2.1 x.m).isSome)) rfl rfl) rfl ?_
          refine R_pure 10 rfl (by kernel_rfl) (by kernel_rfl) (by kernel_rfl) (by kernel_rfl) (.inl (by kernel_rfl)) (opv_assign rfl) rfl ?_
          refine R_pure 11 rfl (by kernel_rfl) (by kernel_rfl) (by kernel_rfl) (by kernel_rfl) (.inl (by kernel_rfl)) (opv_assign rfl) rfl ?_
          refine R_done (by kernel_rfl) ?_
          refine K_then ?_
          refine J_seq ?_
          refine J_region ?_
          refine L_v (opv_move rfl) rfl ?_
          refine L_v (opv_move rfl) rfl ?_
          refine L_v ((opv_neq rfl rfl).bool_f (by rw [hlk]; simp)) rfl ?_
          refine L_v (opv_move rfl) rfl ?_
          refine L_gon rfl rfl rfl ?_
          refine L_v (opv_move rfl) rfl ?_
          refine L_gon rfl rfl rfl ?_
          refine L_v (opv_move rfl) rfl ?_
          refine L_gon rfl rfl rfl ?_
          refine L_v ((opv_neqB rfl rfl).as (neb_eq (by rw [hlk]))) rfl ?_
          first
            | refine L_v (opv_pick_tt rfl rfl) rfl ?_
            | refine L_v (opv_pick_ff rfl rfl) rfl ?_
            | refine L_v (opv_pick rfl rfl rfl) rfl ?_
          refine L_nil ?_
          refine K_then ?_
          refine J_cond_false rfl ?_
          refine J_skip ?_
          refine K_block ?_
          exact K_cut ((gput z.2.1 x.m x.n, x.m :: z.2.2.1, ins (rdel z.2.2.2.1 x.m) (x.m, x.n), q)) ⟨hz.2.2.1.put hxb x.n, hq, by show (x.m :: z.2.2.1).length ≤ _; rw [List.length_cons]; omega, by show (ins (rdel z.2.2.2.1 x.m) (x.m, x.n)).length ≤ _; rw [ins_len]; have := rdel_len z.2.2.2.1 x.m; omega⟩ ⟨rfl, rfl, rfl, rfl, trivial⟩ Ent.take
        · refine J_seq ?_
          refine J_region ?_
          first
            | refine L_v (opv_eql rfl rfl) rfl ?_
            | refine L_v (opv_eqlS rfl rfl) rfl ?_
            | refine L_v (opv_eqlNil rfl rfl) rfl ?_
            | refine L_v (opv_eqlB rfl rfl) rfl ?_
          refine L_v (opv_assign rfl) rfl ?_
          refine L_nil ?_
          refine K_then ?_
          refine J_cond rfl (fun h4 => ?_) (fun h4 => ?_)
          · refine J_seq ?_
            refine J_region ?_
            refine L_v (opv_move rfl) rfl ?_
            first
              | refine L_v (opv_fieldAddr0 rfl) rfl ?_
              | refine L_v (opv_fieldAddr rfl) rfl ?_
            refine L_v (opv_loadN (vs := x.m.map enc8) rfl (enc8_len hxb) (fun j u hj => Rd.look (opM_get hj))) rfl ?_
            refine L_x rfl (opx_call0 (Get_q b18 z.2.1 z.2.2.1 x.m hxb) rfl rfl rfl) (fun _ _ => ?_)
            refine L_v (opv_move rfl) rfl ?_
            refine L_v (opv_extract (v := .int .i64 ((z.2.1 x.m).getD 0)) rfl rfl) rfl ?_
            refine L_v (opv_extract (v := .bool ((z.2.1 x.m).isSome)) rfl rfl) rfl ?_
            refine L_v (opv_assign rfl) rfl ?_
            refine L_v (opv_assign rfl) rfl ?_
            refine L_nil ?_
            refine K_then ?_
            refine J_seq ?_
            refine J_region ?_
            refine L_v (opv_move rfl) rfl ?_
            first
              | refine L_v (opv_fieldAddr0 rfl) rfl ?_
              | refine L_v (opv_fieldAddr rfl) rfl ?_
            refine L_v (opv_loadN (vs := x.m.map enc8) rfl (enc8_len hxb) (fun j u hj => Rd.look (opM_get hj))) rfl ?_
            refine L_x rfl (opx_call0 (text_any hxb) rfl rfl rfl) (fun _ _ => ?_)
            refine L_emp ?_
            refine L_x rfl (opx_call0 (RGet b20 z.2.2.2.2.1 z.2.2.2.2.2 z.2.2.2.1 hz.2.2.2.1 hz.2.2.1.bys hll x.m hxb) rfl rfl rfl) (fun _ _ => ?_)
            refine L_v (opv_move rfl) rfl ?_
            refine L_v (opv_extract (v := .int .i64 ((rlook z.2.2.2.1 x.m).getD 0)) rfl rfl) rfl ?_
            refine L_v (opv_extract (v := .bool ((rlook z.2.2.2.1 x.m).isSome)) rfl rfl) rfl ?_
            refine L_v (opv_assign rfl) rfl ?_
            refine L_v (opv_assign rfl) rfl ?_
            refine L_nil ?_
            refine K_then ?_
            refine J_seq ?_
            refine J_region ?_
            refine L_v (opv_move rfl) rfl ?_
            refine L_v (opv_move rfl) rfl ?_
            refine L_v ((opv_neq rfl rfl).bool_f (by rw [hlk]; simp)) rfl ?_
            refine L_v (opv_move rfl) rfl ?_
            refine L_gon rfl rfl rfl ?_
            refine L_v (opv_move rfl) rfl ?_
            refine L_gon rfl rfl rfl ?_
            refine L_v (opv_move rfl) rfl ?_
            refine L_gon rfl rfl rfl ?_
            refine L_v ((opv_neqB rfl rfl).as (neb_eq (by rw [hlk]))) rfl ?_
            first
              | refine L_v (opv_pick_tt rfl rfl) rfl ?_
              | refine L_v (opv_pick_ff rfl rfl) rfl ?_
              | refine L_v (opv_pick rfl rfl rfl) rfl ?_
            refine L_nil ?_
            refine K_then ?_
            refine J_cond_false rfl ?_
            refine J_skip ?_
            refine K_block ?_
            exact K_cut (z.2) ⟨hz.2.2.1, hz.2.2.2.1, by omega, by omega⟩ ⟨rfl, rfl, rfl, rfl, trivial⟩ Ent.take
          · refine J_seq ?_
            refine J_steps (cel b6 (encOpA x) 66) (cel b6 (encOpA x) 66) [3, 8] Tryd.mixed ?_
            refine R_pure 0 rfl (by kernel_rfl) (by kernel_rfl) (by kernel_rfl) (by kernel_rfl) (.inr ⟨_, Take.eq (A := cel b6 (encOpA x) 66)⟩) (opv_move rfl) rfl ?_
            first
              | refine R_pure 1 rfl (by kernel_rfl) (by kernel_rfl) (by kernel_rfl) (by kernel_rfl) (.inr ⟨_, Take.eq (A := cel b6 (encOpA x) 66)⟩) (opv_fieldAddr0 rfl) rfl ?_
              | refine R_pure 1 rfl (by kernel_rfl) (by kernel_rfl) (by kernel_rfl) (by kernel_rfl) (.inr ⟨_, Take.eq (A := cel b6 (encOpA x) 66)⟩) (opv_fieldAddr rfl) rfl ?_
            refine R_pure 2 rfl (by kernel_rfl) (by kernel_rfl) (by kernel_rfl) (by kernel_rfl) (.inr ⟨_, Take.eq (A := cel b6 (encOpA x) 66)⟩) (opv_loadN (vs := x.m.map enc8) rfl (enc8_len hxb) (fun j u hj => Rd.look (opM_get hj))) rfl ?_
            refine R_pure 4 rfl (by kernel_rfl) (by kernel_rfl) (by kernel_rfl) (by kernel_rfl) (.inr ⟨_, Take.eq (A := cel b6 (encOpA x) 66)⟩) (opv_move rfl) rfl ?_
            first
              | refine R_pure 5 rfl (by kernel_rfl) (by kernel_rfl) (by kernel_rfl) (by kernel_rfl) (.inr ⟨_, Take.eq (A := cel b6 (encOpA x) 66)⟩) (opv_fieldAddr0 rfl) rfl ?_
              | refine R_pure 5 rfl (by kernel_rfl) (by kernel_rfl) (by kernel_rfl) (by kernel_rfl) (.inr ⟨_, Take.eq (A := cel b6 (encOpA x) 66)⟩) (opv_fieldAddr rfl) rfl ?_
            refine R_pure 6 rfl (by kernel_rfl) (by kernel_rfl) (by kernel_rfl) (by kernel_rfl) (.inr ⟨_, Take.eq (A := cel b6 (encOpA x) 66)⟩) (opv_loadN (vs := x.m.map enc8) rfl (enc8_len hxb) (fun j u hj => Rd.look (opM_get hj))) rfl ?_
            refine R_only 3 rfl rfl (by kernel_rfl) (opx_call0 (Drop_q b18 z.2.1 z.2.2.1 x.m hxb) rfl rfl rfl) (fun _ _ => ⟨_, Take.eq (A := cel b6 (encOpA x) 66)⟩) (.inl (by kernel_rfl)) (fun _ _ => ?_)
            refine R_only 7 rfl rfl (by kernel_rfl) (opx_call0 (text_any hxb) rfl rfl rfl) (fun _ _ => ⟨_, Take.eq (A := cel b6 (encOpA x) 66)⟩) (.inl (by kernel_rfl)) (fun _ _ => ?_)
            refine Rg_emp ?_
            refine R_only 8 rfl rfl (by kernel_rfl) (opx_call0 (RDrop b20 z.2.2.2.2.1 z.2.2.2.2.2 z.2.2.2.1 hz.2.2.2.1 hz.2.2.1.bys hll x.m hxb) rfl rfl rfl) (fun _ _ => ⟨_, Take.eq (A := cel b6 (encOpA x) 66)⟩) (.inl (by kernel_rfl)) (fun q hq => ?_)
            refine R_pure 9 rfl (by kernel_rfl) (by kernel_rfl) (by kernel_rfl) (by kernel_rfl) (.inl (by kernel_rfl)) ((opv_neqB rfl rfl).as (neb_eq (hz.2.2.1.some_ hxb))) rfl ?_
            refine R_done (by kernel_rfl) ?_
            refine K_then ?_
            refine J_cond_false rfl ?_
            refine J_skip ?_
            refine K_block ?_
            exact K_cut ((gdel z.2.1 x.m, z.2.2.1, rdel z.2.2.2.1 x.m, q)) ⟨hz.2.2.1.del x.m, hq, by show z.2.2.1.length ≤ _; omega, by show (rdel z.2.2.2.1 x.m).length ≤ _; have := rdel_len z.2.2.2.1 x.m; omega⟩ ⟨rfl, rfl, rfl, rfl, trivial⟩ Ent.take
      · refine J_seq ?_
        refine J_region ?_
        refine L_v (opv_move rfl) rfl ?_
        refine L_x rfl (opx_call0 (All_q b18 v.1 v.2.1 (by omega)) rfl rfl rfl) (fun y hy => ?_)
        refine L_v (opv_assign rfl) rfl ?_
        refine L_nil ?_
        refine K_then ?_
        refine J_seq ?_
        refine J_seq ?_
        refine J_region ?_
        refine L_v (opv_move rfl) rfl ?_
        first
          | refine L_v (opv_lenL rfl) rfl ?_
          | refine L_v (opv_lenS rfl) rfl ?_
        refine L_v (opv_move rfl) rfl ?_
        refine L_v (opv_nilCheck rfl) rfl ?_
        first
          | refine L_v (opv_fieldAddr0 rfl) rfl ?_
          | refine L_v (opv_fieldAddr rfl) rfl ?_
        refine L_v (opv_load rfl (Rd.look rfl)) rfl ?_
        first
          | refine L_v (opv_lenL rfl) rfl ?_
          | refine L_v (opv_lenS rfl) rfl ?_
        refine L_v ((opv_neq rfl rfl).bool_f (by have hsl := congrArg List.length (hv.1.all hy.1); rw [List.length_map, List.length_map] at hsl; omega)) rfl ?_
        refine L_nil ?_
        refine K_then ?_
        refine J_cond_false rfl ?_
        refine J_skip ?_
        refine K_then ?_
        refine J_seq ?_
        refine J_imp (sep (Own 23 6 (.slice y.1 y.2.2.length y.2.1) y.2.2.length (y.2.2.flatMap encM)) (sep (BookQ b18 v.1 v.2.1) (sep ((sep (cel b20 [(.slice v.2.2.2.1 (v.2.2.1).length v.2.2.2.2)] 64) (Own 76 2 (.slice v.2.2.2.1 (v.2.2.1).length v.2.2.2.2) (v.2.2.1).length ((v.2.2.1).flatMap encR)))) (sep (old W) (F))))) Ent.take ?_
        refine J_know (fun w hs => own_nonnil hs) fun hD => ?_
        have hsl := congrArg List.length (hv.1.all hy.1)
        rw [List.length_map, List.length_map] at hsl
        refine J_region ?_
        refine L_v (opv_assign rfl) rfl ?_
        refine L_nil ?_
        refine K_then ?_
        refine J_block ?_
        refine J_loop (X := Nat) (fun k => [(0, .slice (some (ad b o)) xs.length c), (3, .pointer (some (ad b18 0))), (4, .pointer (some (ad b20 0))), (5, .int .i64 z.1), (15, .slice y.1 y.2.2.length y.2.1), (16, .int .i64 k)]) (fun k => (sep (Own 23 6 (.slice y.1 y.2.2.length y.2.1) y.2.2.length (y.2.2.flatMap encM)) (sep (BookQ b18 v.1 v.2.1) (sep ((sep (cel b20 [(.slice v.2.2.2.1 (v.2.2.1).length v.2.2.2.2)] 64) (Own 76 2 (.slice v.2.2.2.1 (v.2.2.1).length v.2.2.2.2) (v.2.2.1).length ((v.2.2.1).flatMap encR)))) (sep (old W) (F)))))) (fun k => k ≤ y.2.2.length) (fun k => y.2.2.length - k) (0) (Nat.zero_le _) ⟨rfl, rfl, rfl, rfl, rfl, rfl, trivial⟩ (Ent.refl _) (fun k hk => ?_)
        refine J_seq ?_
        refine J_seq ?_
        refine J_region ?_
        refine L_v (opv_move rfl) rfl ?_
        refine L_v (opv_move rfl) rfl ?_
        first
          | refine L_v (opv_lenL rfl) rfl ?_
          | refine L_v (opv_lenS rfl) rfl ?_
        refine L_v (opv_lss rfl rfl) rfl ?_
        refine L_nil ?_
        refine K_then ?_
        refine J_cond rfl (fun h5 => ?_) (fun h5 => ?_)
        · obtain ⟨dm, hdm, hdmm⟩ := get_lt (l := y.2.2) (i := k) (by omega)
          obtain ⟨xr, hxr, hxe⟩ := hv.1.at_ hy.1 hdm
          obtain ⟨b1, o1, hD1⟩ : ∃ b o, y.1 = some (ad b o) := by rcases hD with ⟨_, _, h, _⟩ | h; omega; exact h
          obtain ⟨b2, o2, hA2⟩ : ∃ b o, v.2.2.2.1 = some (ad b o) := by rcases hv.2.1 with h | h; (rw [h] at hxr; simp at hxr); exact h
          rw [hD1, hA2]
          refine J_skip ?_
          refine K_then ?_
          refine J_seq ?_
          refine J_block ?_
          refine J_seq ?_
          refine J_quiet Tryd.mixed (by kernel_rfl) ?_
          refine Q_v (opv_move rfl) rfl ?_
          refine Q_v (opv_move rfl) rfl ?_
          first
            | refine Q_v (opv_indexAddr rfl rfl (by omega)) rfl ?_
            | refine Q_v (opv_indexAddrA rfl rfl (by omega)) rfl ?_
          refine Q_v (opv_loadN (vs := encM dm) rfl (encM_len dm) (fun j u hj => Rd.of_take (S := Own 23 6 (.slice (some (ad b1 o1)) y.2.2.length y.2.1) y.2.2.length (y.2.2.flatMap encM)) ((RdS.own (m := 6) (e := 23) (c := y.2.1) encM_len (.inr ⟨b1, o1, rfl⟩)).rd b1 o1 rfl k dm j u hdm hj))) rfl ?_
          refine Q_call (text_any dm.2) rfl rfl (fun _ _ => rfl) (fun _ _ => Ent.refl _) rfl ?_
          refine Q_v (opv_move rfl) rfl ?_
          refine Q_v (opv_nilCheck rfl) rfl ?_
          first
            | refine Q_v (opv_fieldAddr0 rfl) rfl ?_
            | refine Q_v (opv_fieldAddr rfl) rfl ?_
          refine Q_v (opv_load rfl (Rd.look rfl)) rfl ?_
          refine Q_v (opv_move rfl) rfl ?_
          first
            | refine Q_v (opv_indexAddr rfl rfl (by omega)) rfl ?_
            | refine Q_v (opv_indexAddrA rfl rfl (by omega)) rfl ?_
          first
            | refine Q_v (opv_fieldAddr0 rfl) rfl ?_
            | refine Q_v (opv_fieldAddr rfl) rfl ?_
          refine Q_v (opv_load rfl (Rd.of_take (S := Own 76 2 (.slice (some (ad b2 o2)) v.2.2.1.length v.2.2.2.2) v.2.2.1.length (v.2.2.1.flatMap encR)) ((RdS.own (m := 2) (e := 76) (c := v.2.2.2.2) encR_len (.inr ⟨b2, o2, rfl⟩)).rd b2 o2 rfl k xr 0 _ hxr rfl))) rfl ?_
          refine Q_v ((opv_neqS rfl rfl).bool_f (by rw [hxe]; simp)) rfl ?_
          refine QL_nil ?_
          refine K_then ?_
          refine J_cond_false rfl ?_
          refine J_skip ?_
          refine K_block ?_
          refine K_then ?_
          refine J_region ?_
          refine L_v (opv_move rfl) rfl ?_
          first
            | refine L_v (opv_add64 rfl rfl (by omega)) rfl ?_
            | refine L_v (opv_addS rfl rfl (by omega)) rfl ?_
            | refine L_v (opv_add rfl rfl) rfl ?_
          refine L_v (opv_assign rfl) rfl ?_
          refine L_nil ?_
          exact K_loop ((k + 1)) (by omega) (by omega) ⟨rfl, rfl, rfl, rfl, rfl, rfl, trivial⟩ Ent.take
        · refine J_exit ?_
          refine K_then_exit ?_
          refine K_then_exit ?_
          refine K_block_here ?_
          refine K_block ?_
          refine K_then ?_
          refine J_region ?_
          refine L_v (opv_move rfl) rfl ?_
          first
            | refine L_v (opv_add64 rfl rfl (by omega)) rfl ?_
            | refine L_v (opv_addS rfl rfl (by omega)) rfl ?_
            | refine L_v (opv_add rfl rfl) rfl ?_
          refine L_v (opv_assign rfl) rfl ?_
          refine L_nil ?_
          exact K_loop ((z.1 + 1, v)) ⟨by show z.1 + 1 ≤ _; omega, by show z.1 + 1 ≤ 100; omega, hv⟩ (by show xs.length - (z.1 + 1) < _; omega) ⟨rfl, rfl, rfl, rfl, trivial⟩ Ent.take
    · refine J_exit ?_
      refine K_then_exit ?_
      refine K_then_exit ?_
      refine K_block_here ?_
      refine K_then ?_
      refine J_seq ?_
      refine J_region ?_
      refine L_x rfl (opx_call0 (awake_spec W hW) rfl rfl rfl) (fun _ _ => ?_)
      refine L_v (opv_assign rfl) rfl ?_
      refine L_nil ?_
      refine K_then ?_
      refine J_ret ?_
      exact K_ret1 rfl rfl () trivial (rfl) Ent.take
  · refine L_gt_off h1 rfl rfl ?_ (fun _ h => by cases h; rfl)
    refine L_v (opv_pick_f rfl h1 rfl) rfl ?_
    refine L_nil ?_
    refine K_then ?_
    refine J_cond_false rfl ?_
    refine J_exit ?_
    refine K_then_exit ?_
    refine K_then_exit ?_
    refine K_block_here ?_
    refine K_then ?_
    refine J_seq ?_
    refine J_region ?_
    refine L_x rfl (opx_call0 (awake_spec W hW) rfl rfl rfl) (fun _ _ => ?_)
    refine L_v (opv_assign rfl) rfl ?_
    refine L_nil ?_
    refine K_then ?_
    refine J_ret ?_
    exact K_ret1 rfl rfl () trivial (rfl) Ent.take


theorem AddrBooks_law (W : World) (hW : W.cell? (ad 7 15) = some (.int .u8 4)) (A : Option Addr) (len c : Nat) (xs : List OpA) (h : ArrIn W encOpA 8 A len xs) (hl : len ≤ c) (hc : c ≤ maxLen) (hx : ∀ x ∈ xs, okOpA x) : FSpec Tryd.prog 6 #[.slice A len c] (old W) (fun _ : Unit => True) (fun _ => .bool true) (fun _ => old W) := by
  have e := h.1
  subst e
  exact AddrBooks_spec W hW A c xs (RdS.old h) (by unfold maxLen at hc; omega) hx

end Go.Proofs.YtkkoepnljofhpaaDoor
