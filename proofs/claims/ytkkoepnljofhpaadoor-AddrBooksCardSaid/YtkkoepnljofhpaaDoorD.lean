/- Rules for whole regions: in the order of the text, quiet in any order, and step by step in any order; the operations that write, make memory, or call. -/
import Derived.Test.YtkkoepnljofhpaaDoorC
set_option linter.unusedVariables false
set_option linter.unusedSimpArgs false
namespace Go.SLA

/-- Block b holds these cells. -/
def cel (b : Nat) (l : List Value) (t : TypeId) : HProp := blk b (.cells l.toArray t (0, 0))

/-! ### Finding a part of an assertion -/

/-- P is the block b's cells, and R. -/
class Look (P : HProp) (b : Nat) (l : outParam (List Value)) (t : outParam TypeId) (R : outParam HProp) : Prop where
  eq : P = (sep (cel b l t) (R))
instance (priority := 100) {A P R : HProp} {b : Nat} {l : List Value} {t : TypeId} [h : Look P b l t R] : Look (sep (A) (P)) b l t (sep (A) (R)) :=
  ⟨by rw [h.eq, sep_left_comm]⟩
instance (priority := 150) {A B P R : HProp} {b : Nat} {l : List Value} {t : TypeId} [h : Look (sep (A) (sep (B) (P))) b l t R] : Look (sep ((sep (A) (B))) (P)) b l t R := ⟨by rw [sep_assoc]; exact h.eq⟩
instance (priority := 200) {R : HProp} {b : Nat} {l : List Value} {t : TypeId} : Look (sep (cel b l t) (R)) b l t R := ⟨rfl⟩

instance (priority := 50) {b : Nat} {l : List Value} {t : TypeId} : Look (cel b l t) b l t emp := ⟨(sep_emp _).symm⟩

/-- P is A, and R. -/
class Take (P A : HProp) (R : outParam HProp) : Prop where
  eq : P = (sep (A) (R))
instance (priority := 100) {B P A R : HProp} [h : Take P A R] : Take (sep (B) (P)) A (sep (B) (R)) := ⟨by rw [h.eq, sep_left_comm]⟩
instance (priority := 150) {A B P C R : HProp} [h : Take (sep (A) (sep (B) (P))) C R] : Take (sep ((sep (A) (B))) (P)) C R := ⟨by rw [sep_assoc]; exact h.eq⟩
instance (priority := 200) {A R : HProp} : Take (sep (A) (R)) A R := ⟨rfl⟩
instance (priority := 300) {P A B R R' : HProp} [h : Take P A R] [k : Take R B R'] : Take P (sep (A) (B)) R' := ⟨by rw [h.eq, k.eq, sep_assoc]⟩
instance (priority := 50) {P : HProp} : Take P P emp := ⟨(sep_emp P).symm⟩
instance (priority := 400) {P : HProp} : Take P emp P := ⟨(emp_sep P).symm⟩

theorem Ent.take {P Q R : HProp} [h : Take P Q R] : Ent P Q := by rw [h.eq]; exact Ent.left
theorem Ent.takes {P Q R : HProp} [h : Take P Q R] : Ent P (sep (Q) (R)) := Ent.of h.eq

/-- One part put for another one. -/
theorem Ent.swap {P A B R : HProp} [h : Take P A R] (e : Ent A B) : Ent P (sep (B) (R)) := by rw [h.eq]; exact e.frame R

/-- The cell o of l set to v. -/
class SetL (l : List Value) (o : Nat) (v : Value) (l' : outParam (List Value)) : Prop where
  eq : l' = l.set o v
  lt : o < l.length
instance {l : List Value} {v x : Value} : SetL (x :: l) 0 v (v :: l) := ⟨rfl, by simp⟩
instance {l l' : List Value} {o : Nat} {v x : Value} [h : SetL l o v l'] : SetL (x :: l) (o + 1) v (x :: l') := ⟨by rw [h.eq]; rfl, by have := h.lt; simp; omega⟩

/-- m cells of l from o on. -/
class CutL (l : List Value) (o m : Nat) (vs : outParam (List Value)) : Prop where
  eq : (l.drop o).take m = vs
  le : vs.length = m
instance {l : List Value} : CutL l 0 0 [] := ⟨by simp, rfl⟩
instance {l vs : List Value} {x : Value} {m : Nat} [h : CutL l 0 m vs] : CutL (x :: l) 0 (m + 1) (x :: vs) := ⟨by have := h.eq; simp at this; simp [this], by simp [h.le]⟩
instance {l vs : List Value} {x : Value} {o m : Nat} [h : CutL l o m vs] : CutL (x :: l) (o + 1) m vs := ⟨by simpa using h.eq, h.le⟩

variable {prog : Program} {σ : World} {n : Nat} {Q : Exit → Act → World → Prop} {E E' : Env} {P P' R F : HProp} {ops : Array Oper} {rest : List Oper}

theorem cell_of_cel {w : World} {b o : Nat} {l : List Value} {t : TypeId} (h : Sat σ w (sep (cel b l t) (R))) : w.cell? (ad b o) = l[o]? := by
  have := h.blk
  simp [World.cell?, ad, this]
theorem Rd.look {b o : Nat} {l : List Value} {t : TypeId} {v : Value} [h : Look P b l t R] (hv : l[o]? = some v) : Rd P b o v := fun σ w hs => by
  rw [h.eq] at hs
  rw [cell_of_cel hs, hv]

/-! ### One operation with a trace -/

section
variable (prog) (σ) (n)
/-- From P the operation ends with φ x, E' x, P' x for some x. -/
def OpX (E : Env) (P : HProp) (o : Oper) {X : Type} (φ : X → Prop) (E' : X → Env) (P' : X → HProp) : Prop :=
  ∀ a w, Agree n E a → Sat σ w P → ∀ (Kn : Act → World → Prop) (Q : Exit → Act → World → Prop), (∀ x a' w', φ x → Agree n (E' x) a' → Sat σ w' (P' x) → Kn a' w') → o.wp prog a w Kn Q
end

theorem OpX.of_run {o : Oper} {d : Nat} {X : Type} {φ : X → Prop} {val : X → Value} {P' : X → HProp} (ho : o.dst = some d) (hd : Nat.blt d n = true)
    (h : ∀ a w, Agree n E a → Sat σ w P → ∃ x w', φ x ∧ (execOp a.eval o).run prog w = .ok (.value (val x)) w' ∧ Sat σ w' (P' x)) : OpX prog σ n E P o φ (fun x => (d, val x) :: E) P' := by
  intro a w ha hs Kn Q hk
  obtain ⟨x, w', hx, hr, hs'⟩ := h a w ha hs
  unfold Oper.wp
  rw [hr, Oper.upon_value]
  have hd' : d < n := Nat.le_of_ble_eq_true hd
  exact hk x _ _ hx (by rw [ho]; exact ha.put hd' _) hs'
theorem OpX.of_skip {o : Oper} {X : Type} {φ : X → Prop} {P' : X → HProp} (ho : o.dst = none)
    (h : ∀ a w, Agree n E a → Sat σ w P → ∃ x w', φ x ∧ (execOp a.eval o).run prog w = .ok .skip w' ∧ Sat σ w' (P' x)) : OpX prog σ n E P o φ (fun _ => E) P' := by
  intro a w ha hs Kn Q hk
  obtain ⟨x, w', hx, hr, hs'⟩ := h a w ha hs
  unfold Oper.wp
  rw [hr, Oper.upon_skip]
  exact hk x _ _ hx (by rw [ho]; exact ha) hs'
theorem OpV.opx {o : Oper} {d : Nat} {v : Value} (h : OpV prog σ n E P o v) (ho : o.dst = some d) (hd : Nat.blt d n = true) : OpX prog σ n E P o (fun _ : Unit => True) (fun _ => (d, v) :: E) (fun _ => P) :=
  OpX.of_run ho hd fun a w ha hs => ⟨(), w, trivial, h a w ha hs, hs⟩

/-! ### In the order of the text -/

theorem L_x {o : Oper} (hg : o.guard = none) {X : Type} {φ : X → Prop} {E' : X → Env} {P' : X → HProp} (h : OpX prog σ n E P o φ E' P') (k : ∀ x, φ x → L prog σ n ops rest Q (E' x) (P' x)) : L prog σ n ops (o :: rest) Q E P :=
  fun a w ha hs => wpList_plain hg fun _ hK => h a w ha hs _ _ fun x a' w' hx ha' hs' => hK _ _ (k x hx a' w' ha' hs')
theorem L_v {d : Nat} {op : Op} {ty : TypeId} {pos : String} {aft : Array Edge} {v : Value} (h : OpV prog σ n E P ⟨some d, op, ty, pos, aft, none⟩ v) (hd : Nat.blt d n = true) (k : L prog σ n ops rest Q ((d, v) :: E) P) :
    L prog σ n ops (⟨some d, op, ty, pos, aft, none⟩ :: rest) Q E P := L_x rfl (h.opx rfl hd) fun _ _ => k
theorem yields {a : Act} (ha : Agree n E a) {j t : Nat} {b : Bool} (hj : (ops[j]?).bind (·.dst) = some t) (hb : Env.get E t = some (.bool b)) : yielded ops a.tmps j = some b := by
  unfold yielded
  rw [hj, Option.bind_some, ha.slot t _ hb]
theorem L_gskip {d : Option Nat} {op : Op} {ty : TypeId} {pos : String} {aft : Array Edge} {j t : Nat} {want b : Bool} (hj : (ops[j]?).bind (·.dst) = some t) (hb : Env.get E t = some (.bool b)) (hne : (b == want) = false)
    (k : L prog σ n ops rest Q E P) (hd : ∀ i, d = some i → Env.get E i = none) : L prog σ n ops (⟨d, op, ty, pos, aft, some (j, want)⟩ :: rest) Q E P := fun a w ha hs => by
  unfold wpList
  have : Region.wanted ⟨d, op, ty, pos, aft, some (j, want)⟩ (yielded ops a.tmps) = false := by
    simp only [Region.wanted, yields ha hj hb]
    simpa using hne
  rw [this]
  simp only [Bool.false_eq_true, if_false]
  refine k _ w ?_ hs
  cases d with
  | none => exact ha
  | some d =>
    refine ⟨ha.defers, by simp [Act.put, ha.size], fun i u hi => ?_⟩
    simp only [Act.put]
    by_cases e : d = i
    · subst e; rw [hd d rfl] at hi; cases hi
    · rw [Array.getElem?_setIfInBounds_ne e]; exact ha.slot i u hi
theorem L_gon {d : Option Nat} {op : Op} {ty : TypeId} {pos : String} {aft : Array Edge} {j t : Nat} {want b : Bool} (hj : (ops[j]?).bind (·.dst) = some t) (hb : Env.get E t = some (.bool b)) (hne : (b == want) = true)
    (k : L prog σ n ops (⟨d, op, ty, pos, aft, none⟩ :: rest) Q E P) : L prog σ n ops (⟨d, op, ty, pos, aft, some (j, want)⟩ :: rest) Q E P := fun a w ha hs => by
  have h := k a w ha hs
  unfold wpList at h ⊢
  have h1 : Region.wanted ⟨d, op, ty, pos, aft, some (j, want)⟩ (yielded ops a.tmps) = true := by
    simp only [Region.wanted, yields ha hj hb]
    simpa using hne
  have h2 : Region.wanted ⟨d, op, ty, pos, aft, none⟩ (yielded ops a.tmps) = true := rfl
  rw [h1]
  rw [h2] at h
  exact h
/-- A guard that is asked of 'decide p': on, or passed over. -/
theorem L_gt {d : Option Nat} {op : Op} {ty : TypeId} {pos : String} {aft : Array Edge} {j t : Nat} {p : Prop} [Decidable p] (hj : (ops[j]?).bind (·.dst) = some t) (hb : Env.get E t = some (.bool (decide p)))
    (ht : p → L prog σ n ops (⟨d, op, ty, pos, aft, none⟩ :: rest) Q E P) (hf : ¬ p → L prog σ n ops rest Q E P) (hd : ∀ i, d = some i → Env.get E i = none) : L prog σ n ops (⟨d, op, ty, pos, aft, some (j, true)⟩ :: rest) Q E P := by
  by_cases h : p
  · exact L_gon hj hb (by simp [h]) (ht h)
  · exact L_gskip hj hb (by simp [h]) (hf h) hd
theorem L_gf {d : Option Nat} {op : Op} {ty : TypeId} {pos : String} {aft : Array Edge} {j t : Nat} {p : Prop} [Decidable p] (hj : (ops[j]?).bind (·.dst) = some t) (hb : Env.get E t = some (.bool (decide p)))
    (ht : ¬ p → L prog σ n ops (⟨d, op, ty, pos, aft, none⟩ :: rest) Q E P) (hf : p → L prog σ n ops rest Q E P) (hd : ∀ i, d = some i → Env.get E i = none) : L prog σ n ops (⟨d, op, ty, pos, aft, some (j, false)⟩ :: rest) Q E P := by
  by_cases h : p
  · exact L_gskip hj hb (by simp [h]) (hf h) hd
  · exact L_gon hj hb (by simp [h]) (ht h)

theorem L_gt_on {d : Option Nat} {op : Op} {ty : TypeId} {pos : String} {aft : Array Edge} {j t : Nat} {p : Prop} [Decidable p] (h : p) (hj : (ops[j]?).bind (·.dst) = some t) (hb : Env.get E t = some (.bool (decide p)))
    (k : L prog σ n ops (⟨d, op, ty, pos, aft, none⟩ :: rest) Q E P) : L prog σ n ops (⟨d, op, ty, pos, aft, some (j, true)⟩ :: rest) Q E P := L_gon hj hb (by simp [h]) k
theorem L_gt_off {d : Option Nat} {op : Op} {ty : TypeId} {pos : String} {aft : Array Edge} {j t : Nat} {p : Prop} [Decidable p] (h : ¬ p) (hj : (ops[j]?).bind (·.dst) = some t) (hb : Env.get E t = some (.bool (decide p)))
    (k : L prog σ n ops rest Q E P) (hd : ∀ i, d = some i → Env.get E i = none) : L prog σ n ops (⟨d, op, ty, pos, aft, some (j, true)⟩ :: rest) Q E P := L_gskip hj hb (by simp [h]) k hd
theorem L_gf_on {d : Option Nat} {op : Op} {ty : TypeId} {pos : String} {aft : Array Edge} {j t : Nat} {p : Prop} [Decidable p] (h : ¬ p) (hj : (ops[j]?).bind (·.dst) = some t) (hb : Env.get E t = some (.bool (decide p)))
    (k : L prog σ n ops (⟨d, op, ty, pos, aft, none⟩ :: rest) Q E P) : L prog σ n ops (⟨d, op, ty, pos, aft, some (j, false)⟩ :: rest) Q E P := L_gon hj hb (by simp [h]) k
theorem L_gf_off {d : Option Nat} {op : Op} {ty : TypeId} {pos : String} {aft : Array Edge} {j t : Nat} {p : Prop} [Decidable p] (h : p) (hj : (ops[j]?).bind (·.dst) = some t) (hb : Env.get E t = some (.bool (decide p)))
    (k : L prog σ n ops rest Q E P) (hd : ∀ i, d = some i → Env.get E i = none) : L prog σ n ops (⟨d, op, ty, pos, aft, some (j, false)⟩ :: rest) Q E P := L_gskip hj hb (by simp [h]) k hd

/-! ### Quiet, in any order -/

section
variable (prog) (σ) (n)
def QL (ops : Array Oper) (rest : List Oper) (Qa : Act → Prop) (E : Env) (P : HProp) : Prop := ∀ a, Agree n E a → wpQuiet prog ops (fun w => Sat σ w P) Qa rest a
end
variable {Qa : Act → Prop}
theorem J_quiet {id : Nat} {l : List Oper} (hm : prog.follows .mixedOrders = true) (hB : Region.lexB .any l.toArray = true)
    (h : QL prog σ n l.toArray l (fun a' => ∀ w', Sat σ w' P → Q .normal a' w') E P) : J prog σ n (.region id l.toArray true) Q E P := fun a w ha hs =>
  wp_region_quiet (C := fun w => Sat σ w P) hm hB (hs.drawn _) (by simpa using h a ha)
theorem QL_nil (h : K σ n Q .normal E P) : QL prog σ n ops [] (fun a' => ∀ w', Sat σ w' P → Q .normal a' w') E P := fun a ha w' hs => h a w' ha hs
theorem Q_v {d : Nat} {op : Op} {ty : TypeId} {pos : String} {aft : Array Edge} {v : Value} (h : OpV prog σ n E P ⟨some d, op, ty, pos, aft, none⟩ v) (hd : Nat.blt d n = true) (k : QL prog σ n ops rest Qa ((d, v) :: E) P) :
    QL prog σ n ops (⟨some d, op, ty, pos, aft, none⟩ :: rest) Qa E P := fun a ha => by
  unfold wpQuiet
  rw [if_pos (show Region.wanted ⟨some d, op, ty, pos, aft, none⟩ (yielded ops a.tmps) = true from rfl)]
  refine ⟨v, fun w hw => ?_, k _ (ha.put (Nat.le_of_ble_eq_true hd) v)⟩
  unfold Oper.quietAt
  rw [h a w ha hw]
  exact ⟨rfl, rfl⟩
theorem Q_gskip {d : Option Nat} {op : Op} {ty : TypeId} {pos : String} {aft : Array Edge} {j t : Nat} {want b : Bool} (hj : (ops[j]?).bind (·.dst) = some t) (hb : Env.get E t = some (.bool b)) (hne : (b == want) = false)
    (k : QL prog σ n ops rest Qa E P) (hd : ∀ i, d = some i → Env.get E i = none) : QL prog σ n ops (⟨d, op, ty, pos, aft, some (j, want)⟩ :: rest) Qa E P := fun a ha => by
  unfold wpQuiet
  have : Region.wanted ⟨d, op, ty, pos, aft, some (j, want)⟩ (yielded ops a.tmps) = false := by
    simp only [Region.wanted, yields ha hj hb]
    simpa using hne
  rw [this]
  simp only [Bool.false_eq_true, if_false]
  refine k _ ?_
  cases d with
  | none => exact ha
  | some d =>
    refine ⟨ha.defers, by simp [Act.put, ha.size], fun i u hi => ?_⟩
    simp only [Act.put]
    by_cases e : d = i
    · subst e; rw [hd d rfl] at hi; cases hi
    · rw [Array.getElem?_setIfInBounds_ne e]; exact ha.slot i u hi
theorem Q_gon {d : Option Nat} {op : Op} {ty : TypeId} {pos : String} {aft : Array Edge} {j t : Nat} {want b : Bool} (hj : (ops[j]?).bind (·.dst) = some t) (hb : Env.get E t = some (.bool b)) (hne : (b == want) = true)
    (k : QL prog σ n ops (⟨d, op, ty, pos, aft, none⟩ :: rest) Qa E P) : QL prog σ n ops (⟨d, op, ty, pos, aft, some (j, want)⟩ :: rest) Qa E P := fun a ha => by
  have h := k a ha
  unfold wpQuiet at h ⊢
  have h1 : Region.wanted ⟨d, op, ty, pos, aft, some (j, want)⟩ (yielded ops a.tmps) = true := by
    simp only [Region.wanted, yields ha hj hb]
    simpa using hne
  have h2 : Region.wanted ⟨d, op, ty, pos, aft, none⟩ (yielded ops a.tmps) = true := rfl
  rw [h1]
  rw [h2] at h
  exact h
theorem Q_gt {d : Option Nat} {op : Op} {ty : TypeId} {pos : String} {aft : Array Edge} {j t : Nat} {p : Prop} [Decidable p] (hj : (ops[j]?).bind (·.dst) = some t) (hb : Env.get E t = some (.bool (decide p)))
    (ht : p → QL prog σ n ops (⟨d, op, ty, pos, aft, none⟩ :: rest) Qa E P) (hf : ¬ p → QL prog σ n ops rest Qa E P) (hd : ∀ i, d = some i → Env.get E i = none) : QL prog σ n ops (⟨d, op, ty, pos, aft, some (j, true)⟩ :: rest) Qa E P := by
  by_cases h : p
  · exact Q_gon hj hb (by simp [h]) (ht h)
  · exact Q_gskip hj hb (by simp [h]) (hf h) hd
theorem Q_gf {d : Option Nat} {op : Op} {ty : TypeId} {pos : String} {aft : Array Edge} {j t : Nat} {p : Prop} [Decidable p] (hj : (ops[j]?).bind (·.dst) = some t) (hb : Env.get E t = some (.bool (decide p)))
    (ht : ¬ p → QL prog σ n ops (⟨d, op, ty, pos, aft, none⟩ :: rest) Qa E P) (hf : p → QL prog σ n ops rest Qa E P) (hd : ∀ i, d = some i → Env.get E i = none) : QL prog σ n ops (⟨d, op, ty, pos, aft, some (j, false)⟩ :: rest) Qa E P := by
  by_cases h : p
  · exact Q_gskip hj hb (by simp [h]) (hf h) hd
  · exact Q_gon hj hb (by simp [h]) (ht h)

theorem Q_gt_on {d : Option Nat} {op : Op} {ty : TypeId} {pos : String} {aft : Array Edge} {j t : Nat} {p : Prop} [Decidable p] (h : p) (hj : (ops[j]?).bind (·.dst) = some t) (hb : Env.get E t = some (.bool (decide p)))
    (k : QL prog σ n ops (⟨d, op, ty, pos, aft, none⟩ :: rest) Qa E P) : QL prog σ n ops (⟨d, op, ty, pos, aft, some (j, true)⟩ :: rest) Qa E P := Q_gon hj hb (by simp [h]) k
theorem Q_gt_off {d : Option Nat} {op : Op} {ty : TypeId} {pos : String} {aft : Array Edge} {j t : Nat} {p : Prop} [Decidable p] (h : ¬ p) (hj : (ops[j]?).bind (·.dst) = some t) (hb : Env.get E t = some (.bool (decide p)))
    (k : QL prog σ n ops rest Qa E P) (hd : ∀ i, d = some i → Env.get E i = none) : QL prog σ n ops (⟨d, op, ty, pos, aft, some (j, true)⟩ :: rest) Qa E P := Q_gskip hj hb (by simp [h]) k hd
theorem Q_gf_on {d : Option Nat} {op : Op} {ty : TypeId} {pos : String} {aft : Array Edge} {j t : Nat} {p : Prop} [Decidable p] (h : ¬ p) (hj : (ops[j]?).bind (·.dst) = some t) (hb : Env.get E t = some (.bool (decide p)))
    (k : QL prog σ n ops (⟨d, op, ty, pos, aft, none⟩ :: rest) Qa E P) : QL prog σ n ops (⟨d, op, ty, pos, aft, some (j, false)⟩ :: rest) Qa E P := Q_gon hj hb (by simp [h]) k
theorem Q_gf_off {d : Option Nat} {op : Op} {ty : TypeId} {pos : String} {aft : Array Edge} {j t : Nat} {p : Prop} [Decidable p] (h : p) (hj : (ops[j]?).bind (·.dst) = some t) (hb : Env.get E t = some (.bool (decide p)))
    (k : QL prog σ n ops rest Qa E P) (hd : ∀ i, d = some i → Env.get E i = none) : QL prog σ n ops (⟨d, op, ty, pos, aft, some (j, false)⟩ :: rest) Qa E P := Q_gskip hj hb (by simp [h]) k hd

/-! ### Step by step, in any order: S is what every operation keeps till one of B has come up -/

def clearB (B : List Nat) (listed : Array Bool) : Bool := B.all fun b => !listed.getD b false
theorem clearB_set {B : List Nat} {listed : Array Bool} {i : Nat} (hi : i ∉ B) : clearB B (listed.setIfInBounds i true) = clearB B listed := by
  unfold clearB
  induction B with
  | nil => rfl
  | cons b B ih =>
    simp only [List.mem_cons, not_or] at hi
    rw [List.all_cons, List.all_cons, ih hi.2, getD_set_ne false hi.1]
def wpAnyB (P : Program) (ops : Array Oper) (Q : Exit → Act → World → Prop) (S0 S : World → Prop) (B : List Nat) : Nat → Array Bool → Act → World → Prop
  | 0, listed, a, w => Region.ready .any ops listed = [] ∧ Q .normal a w
  | fuel + 1, listed, a, w =>
    (Region.ready .any ops listed = [] → Q .normal a w) ∧
    ∀ i ∈ Region.ready .any ops listed, wpOp P ops Q i (fun a' w' => (S0 w' ∧ (clearB B (listed.setIfInBounds i true) = true → S w')) ∧ wpAnyB P ops Q S0 S B fuel (listed.setIfInBounds i true) a' w') a w
theorem wpAny_of_B {S0 S : World → Prop} {B : List Nat} : ∀ (fuel : Nat) (listed : Array Bool) (a : Act) (w : World), wpAnyB prog ops Q S0 S B fuel listed a w → wpAny prog .any ops Q fuel listed a w
  | 0, _, _, _, h => h
  | fuel + 1, _, _, _, h => ⟨h.1, fun i hi => wpOp_mono (fun a' w' h' => wpAny_of_B fuel _ a' w' h'.2) (h.2 i hi)⟩
def waitsAll (ops : Array Oper) (B : List Nat) (i : Nat) : Bool := B.all fun b => !Nat.beq b i && match ops[b]? with
  | some o => o.after.any fun e => Region.binds .any e && e.on == i
  | none => true
theorem waitsAll_spec {B : List Nat} {i : Nat} (h : waitsAll ops B i = true) : i ∉ B ∧ ∀ b ∈ B, ∀ o, ops[b]? = some o → ∃ e ∈ o.after, Region.binds .any e = true ∧ e.on = i := by
  simp only [waitsAll, List.all_eq_true, Bool.and_eq_true, Bool.not_eq_true'] at h
  refine ⟨fun hi => ?_, fun b hb o ho => ?_⟩
  · have := (h i hi).1
    rw [Nat.beq_refl] at this
    cases this
  · have := (h b hb).2
    rw [ho] at this
    obtain ⟨e, he, hb⟩ := Array.any_eq_true'.1 this
    simp only [Bool.and_eq_true, beq_iff_eq] at hb
    exact ⟨e, he, hb.1, hb.2⟩
/-- What is asked of the operation that is taken first: pS: its value stands wherever S does; else in every world. -/
theorem wpAnyB_first {S0 S : World → Prop} {B : List Nat} {i : Nat} {oi : Oper} {v : Value} (pS : Bool) (hi : ops[i]? = some oi) (hsel : ∀ (j : Nat) (o : Oper) cs b, ops[j]? = some o → o.op ≠ .select cs b)
    (hQ : ∀ c a w, Q (.panic c) (a.put oi.dst v) w → Q (.panic c) a w) (hiB : i ∉ B) (hB : pS = true → ∀ b ∈ B, ∀ o, ops[b]? = some o → ∃ e ∈ o.after, Region.binds .any e = true ∧ e.on = i) :
    ∀ (fuel : Nat) (listed : Array Bool) (a : Act) (w : World),
      (∀ j oj, ops[j]? = some oj → j ≠ i → listed.getD j true = false → (∀ e ∈ oj.after, Region.binds .any e = true → e.on ≠ i) → oi.apart ops oj = true) →
      i ∈ Region.ready .any ops listed → YieldsIf prog ops (fun w => S0 w ∧ (pS = true → S w)) oi v a → (pS = true → clearB B listed = true) → S0 w → (clearB B listed = true → S w) →
      wpAnyB prog ops Q S0 S B fuel (listed.setIfInBounds i true) (a.put oi.dst v) w → wpAnyB prog ops Q S0 S B (fuel + 1) listed a w := by
  intro fuel
  induction fuel with
  | zero =>
    intro listed a w _ hr hy hc hS0 hS H
    refine ⟨fun h => (by rw [h] at hr; cases hr), fun j hj => ?_⟩
    by_cases hji : j = i
    · subst hji
      exact hy.wpOp hi ⟨hS0, fun h => hS (hc h)⟩ ⟨⟨hS0, fun h => hS (by rwa [clearB_set hiB] at h)⟩, H⟩
    · have := ready_mono hj hji
      rw [H.1] at this
      cases this
  | succ fuel ih =>
    intro listed a w hfree hr hy hc hS0 hS H
    refine ⟨fun h => (by rw [h] at hr; cases hr), fun j hj => ?_⟩
    by_cases hji : j = i
    · subst hji
      exact hy.wpOp hi ⟨hS0, fun h => hS (hc h)⟩ ⟨⟨hS0, fun h => hS (by rwa [clearB_set hiB] at h)⟩, H⟩
    · have h1 := H.2 j (ready_mono hj hji)
      obtain ⟨hjun, oj, hoj, hall⟩ := mem_ready.1 hj
      have hiun : ∀ e ∈ oj.after, Region.binds .any e = true → e.on ≠ i := fun e he hb heq => by
        have h1 := hall e he hb
        have h0 := (mem_ready.1 hr).1
        rw [heq] at h1
        rcases Nat.lt_or_ge i listed.size with h' | h'
        · simp [h'] at h0 h1; rw [h0] at h1; cases h1
        · simp [Array.getElem?_eq_none h'] at h1
      have hjB : pS = true → j ∉ B := fun h hjb => by
        obtain ⟨e, he, hb, hon⟩ := hB h j hjb oj hoj
        exact hiun e he hb hon
      have h2 := wpOp_putIf hoj (hfree j oj hoj hji hjun hiun) (fun cs b => hsel i oi cs b hi) (fun cs b => hsel j oj cs b hoj) hQ hy h1
      have hfree' : ∀ k ok, ops[k]? = some ok → k ≠ i → (listed.setIfInBounds j true).getD k true = false →
          (∀ e ∈ ok.after, Region.binds .any e = true → e.on ≠ i) → oi.apart ops ok = true := fun k ok hk hki hun hno => by
        refine hfree k ok hk hki ?_ hno
        by_cases hjk : j = k
        · subst hjk; exact hjun
        · rw [getD_set_ne true hjk] at hun; exact hun
      have hcl : ∀ l : Array Bool, clearB B ((l.setIfInBounds i true).setIfInBounds j true) = clearB B (l.setIfInBounds j true) := fun l => by
        rw [Array.setIfInBounds_comm _ _ (Ne.symm hji), clearB_set hiB]
      refine wpOp_mono (fun a' w' h3 => ?_) h2
      have hS' : clearB B (listed.setIfInBounds j true) = true → S w' := fun h => h3.2.1.2 (by rw [hcl]; exact h)
      refine ⟨⟨h3.2.1.1, hS'⟩, ih (listed.setIfInBounds j true) a' w' hfree' (ready_mono hr (Ne.symm hji)) h3.1 (fun h => by rw [clearB_set (hjB h)]; exact hc h) h3.2.1.1 hS' ?_⟩
      rw [Array.setIfInBounds_comm _ _ hji]
      exact h3.2.2

section
variable (prog) (σ) (n)
def Rg (ops : Array Oper) (Q : Exit → Act → World → Prop) (S0 S : HProp) (B : List Nat) (fuel : Nat) (listed : Array Bool) (E : Env) (P : HProp) : Prop :=
  ∀ a w, Agree n E a → Sat σ w P → wpAnyB prog ops Q (fun w => Sat σ w S0) (fun w => Sat σ w S) B fuel listed a w
end
variable {S0 S : HProp} {B : List Nat} {fuel : Nat} {listed : Array Bool}
theorem J_steps {id : Nat} {l : List Oper} (S0 S : HProp) (B : List Nat) (hm : prog.follows .mixedOrders = true) (h : Rg prog σ n l.toArray Q S0 S B l.length (List.replicate l.length false).toArray E P) : J prog σ n (.region id l.toArray true) Q E P :=
  fun a w ha hs => wp_region_any hm (wpAny_of_B (S0 := fun w => Sat σ w S0) (S := fun w => Sat σ w S) (B := B) _ _ _ _ (by
    have := h a _ ha (hs.drawn (w.drawn + 1))
    simpa using this))
/-- An operation whose value stands wherever S does. -/
theorem R_take (i : Nat) {d : Nat} {op : Op} {ty : TypeId} {pos : String} {aft : Array Edge} {v : Value} {R0 : HProp} [NP Q] [hS : Take P S R] [h0 : Take P S0 R0] (hi : ops[i]? = some ⟨some d, op, ty, pos, aft, none⟩) (hs : Region.noSelect ops = true) (hf : Region.free .any ops listed i = true)
    (hr : (Region.ready .any ops listed).contains i = true) (hB : waitsAll ops B i = true) (hc : clearB B listed = true) (h : OpV prog σ n E S ⟨some d, op, ty, pos, aft, none⟩ v) (hd : Nat.blt d n = true) (k : Rg prog σ n ops Q S0 S B fuel (listed.setIfInBounds i true) ((d, v) :: E) P) :
    Rg prog σ n ops Q S0 S B (fuel + 1) listed E P := fun a w ha hw => by
  have hSw : Sat σ w S := by have := hw; rw [hS.eq] at this; exact this.left
  obtain ⟨hiB, hB⟩ := waitsAll_spec hB
  refine wpAnyB_first true hi (Region.noSelect_spec hs) (fun c a w h => absurd h (NP.no c _ w)) hiB (fun _ => hB) fuel listed a w (Region.free_spec hi hf) (by simpa using hr) (.inl ⟨rfl, fun w' hw' => h a w' ha (hw'.2 rfl)⟩) (fun _ => hc) (by have := hw; rw [h0.eq] at this; exact this.left) (fun _ => hSw) ?_
  exact k _ w (ha.put (Nat.le_of_ble_eq_true hd) v) hw
/-- An operation whose value stands wherever S0 does. -/
theorem R_pure (i : Nat) {d : Nat} {op : Op} {ty : TypeId} {pos : String} {aft : Array Edge} {v : Value} {R0 : HProp} [NP Q] [h0 : Take P S0 R0] (hi : ops[i]? = some ⟨some d, op, ty, pos, aft, none⟩) (hs : Region.noSelect ops = true) (hf : Region.free .any ops listed i = true)
    (hr : (Region.ready .any ops listed).contains i = true) (hiB : B.contains i = false) (hc : clearB B listed = false ∨ ∃ R, P = (sep (S) (R))) (h : OpV prog σ n E S0 ⟨some d, op, ty, pos, aft, none⟩ v) (hd : Nat.blt d n = true) (k : Rg prog σ n ops Q S0 S B fuel (listed.setIfInBounds i true) ((d, v) :: E) P) :
    Rg prog σ n ops Q S0 S B (fuel + 1) listed E P := fun a w ha hw => by
  refine wpAnyB_first (v := v) false hi (Region.noSelect_spec hs) (fun c a w h => absurd h (NP.no c _ w)) (by simpa using hiB) (fun h => by cases h) fuel listed a w (Region.free_spec hi hf) (by simpa using hr) (.inl ⟨rfl, fun w' hw' => h a w' ha hw'.1⟩) (fun h => by cases h)
    (by have := hw; rw [h0.eq] at this; exact this.left) (fun hcl => ?_) ?_
  · rcases hc with hc | ⟨R, hR⟩
    · rw [hc] at hcl; cases hcl
    · rw [hR] at hw; exact hw.left
  · exact k _ w (ha.put (Nat.le_of_ble_eq_true hd) v) hw
theorem R_only (i : Nat) {o : Oper} {X : Type} {φ : X → Prop} {E' : X → Env} {P' : X → HProp} (hi : ops[i]? = some o) (hg : o.guard = none) (hr : Region.ready .any ops listed = [i]) (h : OpX prog σ n E P o φ E' P')
    (hS0 : ∀ x, φ x → ∃ R', P' x = (sep (S0) (R'))) (hS : clearB B (listed.setIfInBounds i true) = false ∨ ∀ x, φ x → ∃ R', P' x = (sep (S) (R'))) (k : ∀ x, φ x → Rg prog σ n ops Q S0 S B fuel (listed.setIfInBounds i true) (E' x) (P' x)) : Rg prog σ n ops Q S0 S B (fuel + 1) listed E P := fun a w ha hw => by
  refine ⟨fun h0 => absurd (hr ▸ h0) (by simp), fun j hj => ?_⟩
  rw [hr] at hj
  obtain rfl : j = i := by simpa using hj
  unfold wpOp
  rw [hi]
  simp only [Region.wanted, hg, if_true]
  refine .inl (h a w ha hw _ _ fun x a' w' hx ha' hw' => ⟨⟨by obtain ⟨R', hR⟩ := hS0 x hx; rw [hR] at hw'; exact hw'.left, fun hcl => ?_⟩, k x hx a' w' ha' hw'⟩)
  rcases hS with hS | hS
  · rw [hS] at hcl; cases hcl
  · obtain ⟨R', hR⟩ := hS x hx
    rw [hR] at hw'
    exact hw'.left
/-- Of several that may come up: each is to be shown. -/
theorem R_all (rs : List Nat) (hr : Region.ready .any ops listed = rs) (hne : rs.isEmpty = false)
    (h : ∀ i, i ∈ rs → ∃ (o : Oper) (X : Type) (φ : X → Prop) (E' : X → Env) (P' : X → HProp), ops[i]? = some o ∧ o.guard = none ∧ OpX prog σ n E P o φ E' P' ∧ ∀ x, φ x → (∃ R', P' x = (sep (S0) (R'))) ∧ (clearB B (listed.setIfInBounds i true) = false ∨ ∃ R', P' x = (sep (S) (R'))) ∧ Rg prog σ n ops Q S0 S B fuel (listed.setIfInBounds i true) (E' x) (P' x)) :
    Rg prog σ n ops Q S0 S B (fuel + 1) listed E P := fun a w ha hw => by
  refine ⟨fun h0 => absurd (hr ▸ h0) (by rintro rfl; cases hne), fun j hj => ?_⟩
  rw [hr] at hj
  obtain ⟨o, X, φ, E', P', hi, hg, hx, k⟩ := h j hj
  unfold wpOp
  rw [hi]
  simp only [Region.wanted, hg, if_true]
  refine .inl (hx a w ha hw _ _ fun x a' w' hx' ha' hw' => ?_)
  obtain ⟨⟨R0, h0⟩, hS, k⟩ := k x hx'
  refine ⟨⟨by rw [h0] at hw'; exact hw'.left, fun hcl => ?_⟩, k a' w' ha' hw'⟩
  rcases hS with hS | ⟨R', hS⟩
  · rw [hS] at hcl; cases hcl
  · rw [hS] at hw'; exact hw'.left
theorem R_done (hr : Region.ready .any ops listed = []) (h : K σ n Q .normal E P) : Rg prog σ n ops Q S0 S B fuel listed E P := fun a w ha hw => by
  cases fuel with
  | zero => exact ⟨hr, h a w ha hw⟩
  | succ fuel => exact ⟨fun _ => h a w ha hw, by rw [hr]; simp⟩
theorem Rg_emp (h : Rg prog σ n ops Q S0 S B fuel listed E P) : Rg prog σ n ops Q S0 S B fuel listed E (sep (emp) (P)) := by rw [emp_sep]; exact h
theorem Rg_sub (E' : Env) (hs : Sub E' E) (h : Rg prog σ n ops Q S0 S B fuel listed E' P) : Rg prog σ n ops Q S0 S B fuel listed E P := fun a w ha hw => h a w (ha.sub hs) hw
theorem Rg_imp (P' : HProp) (e : Ent P P') (h : Rg prog σ n ops Q S0 S B fuel listed E P') : Rg prog σ n ops Q S0 S B fuel listed E P := fun a w ha hw => h a w ha (hw.ent e)
theorem Rg_ex {X : Type} {f : X → HProp} (h : ∀ x, Rg prog σ n ops Q S0 S B fuel listed E (sep (f x) (P))) : Rg prog σ n ops Q S0 S B fuel listed E (sep (ex f) (P)) :=
  fun a w ha hw => let ⟨x, hx⟩ := sat_ex.1 hw; h x a w ha hx

end Go.SLA
