/- A separation logic over the model's worlds: assertions on blocks, judgements on code, rules for each kind of operation. No program in sight. -/
import Derived.WalkKit
import Derived.Deep.Quiet
import Derived.OrdersHeld
set_option linter.unusedVariables false
set_option linter.unusedSimpArgs false
namespace Go.SLA

/-! ### Assertions on parts of a heap -/

abbrev Heap := Nat → Option Obj
def HProp := Heap → Prop

def Heap.join (h1 h2 : Heap) : Heap := fun b => (h1 b).or (h2 b)
def Heap.apart (h1 h2 : Heap) : Prop := ∀ b, h1 b = none ∨ h2 b = none

def sep (P Q : HProp) : HProp := fun h => ∃ h1 h2, Heap.apart h1 h2 ∧ h = Heap.join h1 h2 ∧ P h1 ∧ Q h2
def emp : HProp := fun h => h = fun _ => none
def blk (b : Nat) (o : Obj) : HProp := fun h => h = fun k => if k = b then some o else none
def lift (p : Prop) : HProp := fun h => p ∧ h = fun _ => none
def ex {X : Type} (f : X → HProp) : HProp := fun h => ∃ x, f x h
/-- Blocks from nowhere to B, as the world w0 has them. -/
def old (w0 : World) : HProp := fun h => h = fun k => if k < w0.heap.size then w0.heap[k]? else none

theorem Heap.join_comm {h1 h2 : Heap} (h : Heap.apart h1 h2) : Heap.join h1 h2 = Heap.join h2 h1 := by
  funext b
  unfold Heap.join
  rcases h b with h | h <;> simp [h]
theorem Heap.apart_comm {h1 h2 : Heap} (h : Heap.apart h1 h2) : Heap.apart h2 h1 := fun b => (h b).symm

theorem sep_comm (P Q : HProp) : sep P Q = sep Q P := by
  have key : ∀ P Q : HProp, ∀ h, sep P Q h → sep Q P h := by
    rintro P Q h ⟨h1, h2, ha, rfl, hp, hq⟩
    exact ⟨h2, h1, Heap.apart_comm ha, Heap.join_comm ha, hq, hp⟩
  funext h
  exact propext ⟨key P Q h, key Q P h⟩

theorem sep_assoc1 (P Q R : HProp) (h : Heap) (hh : sep (sep P Q) R h) : sep P (sep Q R) h := by
  obtain ⟨h12, h3, ha, rfl, ⟨h1, h2, hb, rfl, hp, hq⟩, hr⟩ := hh
  have key : ∀ b, (h1 b = none ∧ h2 b = none) ∨ h3 b = none := fun b => by
    rcases ha b with h | h
    · left; revert h; simp only [Heap.join]; cases h1 b <;> cases h2 b <;> simp
    · exact .inr h
  refine ⟨h1, Heap.join h2 h3, fun b => ?_, ?_, hp, h2, h3, fun b => ?_, rfl, hq, hr⟩
  · rcases key b with ⟨h, _⟩ | h
    · exact .inl h
    · rcases hb b with h' | h'
      · exact .inl h'
      · right; simp [Heap.join, h, h']
  · funext b; simp only [Heap.join]; cases h1 b <;> simp
  · rcases key b with ⟨_, h⟩ | h
    · exact .inl h
    · exact .inr h

theorem sep_assoc (P Q R : HProp) : sep (sep P Q) R = sep P (sep Q R) := by
  funext h
  refine propext ⟨sep_assoc1 P Q R h, fun hh => ?_⟩
  rw [sep_comm] at hh
  have h1 := sep_assoc1 Q R P h hh
  rw [sep_comm] at h1
  have h2 := sep_assoc1 R P Q h h1
  rw [sep_comm] at h2
  exact h2

instance : Std.Associative sep := ⟨sep_assoc⟩
instance : Std.Commutative sep := ⟨sep_comm⟩

theorem sep_left_comm (P Q R : HProp) : sep P (sep Q R) = sep Q (sep P R) := by
  rw [← sep_assoc, sep_comm P Q, sep_assoc]
theorem emp_sep (P : HProp) : sep emp P = P := by
  funext h
  refine propext ⟨?_, fun hp => ⟨fun _ => none, h, fun b => .inl rfl, by funext b; simp [Heap.join], rfl, hp⟩⟩
  rintro ⟨h1, h2, _, rfl, rfl, hp⟩
  have : Heap.join (fun _ => none) h2 = h2 := by funext b; simp [Heap.join]
  rw [this]; exact hp
theorem sep_emp (P : HProp) : sep P emp = P := by rw [sep_comm, emp_sep]
theorem lift_true (P : HProp) : sep (lift True) P = P := by
  have : lift True = emp := by funext h; simp [lift, emp]
  rw [this, emp_sep]

/-! ### A world meets an assertion -/

structure Sat (σ w : World) (P : HProp) : Prop where
  os : w.os = σ.os
  tape : w.tape = σ.tape
  output : w.output = σ.output
  heap : ∃ h, P h ∧ ∀ b o, h b = some o → w.heap[b]? = some o

variable {σ w : World} {P Q R F : HProp}

theorem Sat.imp (h : Sat σ w P) (hpq : ∀ h, P h → Q h) : Sat σ w Q :=
  ⟨h.os, h.tape, h.output, let ⟨h1, hp, hh⟩ := h.heap; ⟨h1, hpq _ hp, hh⟩⟩
theorem Sat.of_eq (e : P = Q) (h : Sat σ w P) : Sat σ w Q := e ▸ h
theorem Sat.drop (h : Sat σ w (sep (P) (Q))) : Sat σ w Q := by
  obtain ⟨h1, ⟨ha, hb, hd, rfl, hp, hq⟩, hh⟩ := h.heap
  refine ⟨h.os, h.tape, h.output, hb, hq, fun b o hbo => hh b o ?_⟩
  rcases hd b with h' | h'
  · simp [Heap.join, h', hbo]
  · simp [h'] at hbo
theorem Sat.left (h : Sat σ w (sep (P) (Q))) : Sat σ w P := by rw [sep_comm] at h; exact h.drop

theorem sat_lift {p : Prop} : Sat σ w (sep (lift p) (P)) ↔ p ∧ Sat σ w P := by
  constructor
  · intro h
    refine ⟨?_, h.drop⟩
    obtain ⟨h1, ⟨ha, hb, _, _, hp, _⟩, _⟩ := h.heap
    exact hp.1
  · rintro ⟨hp, h⟩
    have : lift p = emp := by funext h; simp [lift, emp, hp]
    rw [this, emp_sep]; exact h
theorem sat_ex {X : Type} {f : X → HProp} : Sat σ w (sep (ex f) (P)) ↔ ∃ x, Sat σ w (sep (f x) (P)) := by
  constructor
  · intro h
    obtain ⟨h1, ⟨ha, hb, hd, rfl, ⟨x, hx⟩, hp⟩, hh⟩ := h.heap
    exact ⟨x, h.os, h.tape, h.output, _, ⟨ha, hb, hd, rfl, hx, hp⟩, hh⟩
  · rintro ⟨x, h⟩
    obtain ⟨h1, ⟨ha, hb, hd, rfl, hx, hp⟩, hh⟩ := h.heap
    exact ⟨h.os, h.tape, h.output, _, ⟨ha, hb, hd, rfl, ⟨x, hx⟩, hp⟩, hh⟩
theorem sep_ex {X : Type} (f : X → HProp) (P : HProp) : sep (ex f) P = ex fun x => sep (f x) P := by
  funext h
  refine propext ⟨?_, ?_⟩
  · rintro ⟨h1, h2, ha, hj, ⟨x, hx⟩, hp⟩; exact ⟨x, h1, h2, ha, hj, hx, hp⟩
  · rintro ⟨x, h1, h2, ha, hj, hx, hp⟩; exact ⟨h1, h2, ha, hj, ⟨x, hx⟩, hp⟩

theorem Sat.blk {b : Nat} {o : Obj} (h : Sat σ w (sep (SLA.blk b o) (P))) : w.heap[b]? = some o := by
  obtain ⟨h1, ⟨ha, hb, hd, rfl, hp, hq⟩, hh⟩ := h.heap
  exact hh b o (by rw [show ha = fun k => if k = b then some o else none from hp]; simp [Heap.join])

/-- What a step that turns one block alone does. -/
theorem Sat.update {w' : World} {b : Nat} {o o' : Obj} (h : Sat σ w (sep (SLA.blk b o) (P))) (h1 : w'.os = w.os) (h2 : w'.tape = w.tape) (h3 : w'.output = w.output)
    (hn : w'.heap[b]? = some o') (ho : ∀ k, k ≠ b → w'.heap[k]? = w.heap[k]?) : Sat σ w' (sep (SLA.blk b o') (P)) := by
  obtain ⟨hx, ⟨ha, hb, hd, rfl, hp, hq⟩, hh⟩ := h.heap
  refine ⟨h1.trans h.os, h2.trans h.tape, h3.trans h.output, _, ⟨fun k => if k = b then some o' else none, hb, fun k => ?_, rfl, rfl, hq⟩, fun k u hk => ?_⟩
  · rcases hd k with h' | h'
    · rw [show ha = fun k => if k = b then some o else none from hp] at h'
      by_cases e : k = b
      · simp [e] at h'
      · simp [e]
    · exact .inr h'
  · by_cases e : k = b
    · subst e
      simp [Heap.join] at hk
      rw [hn, hk]
    · simp [Heap.join, e] at hk
      rw [ho k e]
      refine hh k u ?_
      rcases hd k with h' | h'
      · simp [Heap.join, h', hk]
      · simp [h'] at hk
theorem Sat.new {w' : World} {o : Obj} (h : Sat σ w P) (h1 : w'.os = w.os) (h2 : w'.tape = w.tape) (h3 : w'.output = w.output)
    (hn : w'.heap[w.heap.size]? = some o) (ho : ∀ k, k < w.heap.size → w'.heap[k]? = w.heap[k]?) : Sat σ w' (sep (SLA.blk w.heap.size o) (P)) := by
  obtain ⟨hx, hp, hh⟩ := h.heap
  have hlt : ∀ k u, hx k = some u → k < w.heap.size := fun k u hk => by
    have := hh k u hk
    exact (Array.getElem?_eq_some_iff.1 this).1
  refine ⟨h1.trans h.os, h2.trans h.tape, h3.trans h.output, _, ⟨fun k => if k = w.heap.size then some o else none, hx, fun k => ?_, rfl, rfl, hp⟩, fun k u hk => ?_⟩
  · by_cases e : k = w.heap.size
    · right
      cases hk : hx k with
      | none => rfl
      | some u => have := hlt k u hk; omega
    · simp [e]
  · by_cases e : k = w.heap.size
    · subst e
      simp [Heap.join] at hk
      rw [hn, hk]
    · simp [Heap.join, e] at hk
      rw [ho k (hlt k u hk)]
      exact hh k u hk
/-- A step that leaves every block. -/
theorem Sat.same {w' : World} (h : Sat σ w P) (h1 : w'.os = w.os) (h2 : w'.tape = w.tape) (h3 : w'.output = w.output)
    (ho : ∀ k, k < w.heap.size → w'.heap[k]? = w.heap[k]?) : Sat σ w' P := by
  obtain ⟨hx, hp, hh⟩ := h.heap
  refine ⟨h1.trans h.os, h2.trans h.tape, h3.trans h.output, hx, hp, fun k u hk => ?_⟩
  have := hh k u hk
  rw [ho k (Array.getElem?_eq_some_iff.1 this).1]
  exact this
theorem Sat.drew (h : Sat σ w P) : Sat σ w.drew P := h.same rfl rfl rfl (fun _ _ => rfl)
theorem Sat.drawn (h : Sat σ w P) (n : Nat) : Sat σ { w with drawn := n } P := h.same rfl rfl rfl (fun _ _ => rfl)
theorem Sat.alloc (h : Sat σ w P) (o : Obj) : Sat σ (w.alloc o) (sep (SLA.blk w.heap.size o) (P)) :=
  h.new rfl rfl rfl (heap_alloc_new w o) (fun k hk => heap_alloc_old w o hk)

/-! ### Old memory -/

theorem Sat.old_block {w0 : World} (h : Sat σ w (sep (old w0) (P))) : ∀ k, k < w0.heap.size → w.heap[k]? = w0.heap[k]? := by
  intro k hk
  obtain ⟨h1, ⟨ha, hb, hd, rfl, hp, hq⟩, hh⟩ := h.heap
  have e : w0.heap[k]? = some w0.heap[k] := Array.getElem?_eq_getElem hk
  rw [e]
  refine hh k _ ?_
  rw [show ha = fun k => if k < w0.heap.size then w0.heap[k]? else none from hp]
  simp [Heap.join, hk]
theorem Sat.start (w : World) : Sat w w (sep (old w) (emp)) := by
  refine ⟨rfl, rfl, rfl, fun k => if k < w.heap.size then w.heap[k]? else none, ?_, fun b o hb => ?_⟩
  · rw [sep_emp]; rfl
  · dsimp only at hb
    split at hb
    · exact hb
    · cases hb
open Go.RowKit in
theorem Sat.below {w0 : World} (h : Sat w0 w (sep (old w0) (P))) : Below w0.heap.size w0 w := by
  refine ⟨h.os, h.tape, h.output, ?_, fun k hk => h.old_block k hk⟩
  by_cases e : w0.heap.size = 0
  · omega
  · have := h.old_block (w0.heap.size - 1) (by omega)
    rw [Array.getElem?_eq_getElem (show w0.heap.size - 1 < w0.heap.size by omega)] at this
    have := (Array.getElem?_eq_some_iff.1 this).1
    omega

end Go.SLA
