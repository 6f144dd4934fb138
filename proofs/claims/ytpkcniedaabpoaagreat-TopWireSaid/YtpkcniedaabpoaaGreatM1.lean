/- Rules of a separation logic over the model, and contracts of functions of the translation; used by the texts that import this one. -/
import Derived.WalkKit
import Derived.Deep.Quiet
import Derived.OrdersHeld
import Derived.ProofKit
import Derived.OpenShut
import Derived.ShutString
import Derived.ChangeOld
import Derived.SizedLaws
import Derived.Deep.Slices
set_option linter.unusedVariables false
set_option linter.unusedSimpArgs false
namespace Go.SLA
/-! ### Assertions on parts of a heap -/
abbrev Heap := Nat → Option Obj
def HProp := Heap → Prop
def Heap.join (h1 h2 : Heap) : Heap := fun b => (h1 b).or (h2 b)
def Heap.apart (h1 h2 : Heap) : Prop := ∀ b, h1 b = none ∨ h2 b = none
def sep (P Q : HProp) : HProp := fun h => ∃ h1 h2, Heap.apart h1 h2 ∧ h = Heap.join h1 h2 ∧ P h1 ∧ Q h2
def emp : HProp := fun h => h = fun _ => none
def blk (b : Nat) (o : Obj) : HProp := fun h => h = fun k => if k = b then some o else none
def lift (p : Prop) : HProp := fun h => p ∧ h = fun _ => none
def ex {X : Type} (f : X → HProp) : HProp := fun h => ∃ x, f x h
/-- Blocks from nowhere to B, as the world w0 has them. -/
def old (w0 : World) : HProp := fun h => h = fun k => if k < w0.heap.size then w0.heap[k]? else none
theorem Heap.join_comm {h1 h2 : Heap} (h : Heap.apart h1 h2) : Heap.join h1 h2 = Heap.join h2 h1 := by
  funext b
  unfold Heap.join
  rcases h b with h | h <;> simp [h]
theorem Heap.apart_comm {h1 h2 : Heap} (h : Heap.apart h1 h2) : Heap.apart h2 h1 := fun b => (h b).symm
theorem sep_comm (P Q : HProp) : sep P Q = sep Q P := by
  have key : ∀ P Q : HProp, ∀ h, sep P Q h → sep Q P h := by
    rintro P Q h ⟨h1, h2, ha, rfl, hp, hq⟩
    exact ⟨h2, h1, Heap.apart_comm ha, Heap.join_comm ha, hq, hp⟩
  funext h
  exact propext ⟨key P Q h, key Q P h⟩
theorem sep_assoc1 (P Q R : HProp) (h : Heap) (hh : sep (sep P Q) R h) : sep P (sep Q R) h := by
  obtain ⟨h12, h3, ha, rfl, ⟨h1, h2, hb, rfl, hp, hq⟩, hr⟩ := hh
  have key : ∀ b, (h1 b = none ∧ h2 b = none) ∨ h3 b = none := fun b => by
    rcases ha b with h | h
    · left; revert h; simp only [Heap.join]; cases h1 b <;> cases h2 b <;> simp
    · exact .inr h
  refine ⟨h1, Heap.join h2 h3, fun b => ?_, ?_, hp, h2, h3, fun b => ?_, rfl, hq, hr⟩
  · rcases key b with ⟨h, _⟩ | h
    · exact .inl h
    · rcases hb b with h' | h'
      · exact .inl h'
      · right; simp [Heap.join, h, h']
  · funext b; simp only [Heap.join]; cases h1 b <;> simp
  · rcases key b with ⟨_, h⟩ | h
    · exact .inl h
    · exact .inr h
theorem sep_assoc (P Q R : HProp) : sep (sep P Q) R = sep P (sep Q R) := by
  funext h
  refine propext ⟨sep_assoc1 P Q R h, fun hh => ?_⟩
  rw [sep_comm] at hh
  have h1 := sep_assoc1 Q R P h hh
  rw [sep_comm] at h1
  have h2 := sep_assoc1 R P Q h h1
  rw [sep_comm] at h2
  exact h2
instance : Std.Associative sep := ⟨sep_assoc⟩
instance : Std.Commutative sep := ⟨sep_comm⟩
theorem sep_left_comm (P Q R : HProp) : sep P (sep Q R) = sep Q (sep P R) := by
  rw [← sep_assoc, sep_comm P Q, sep_assoc]
theorem emp_sep (P : HProp) : sep emp P = P := by
  funext h
  refine propext ⟨?_, fun hp => ⟨fun _ => none, h, fun b => .inl rfl, by funext b; simp [Heap.join], rfl, hp⟩⟩
  rintro ⟨h1, h2, _, rfl, rfl, hp⟩
  have : Heap.join (fun _ => none) h2 = h2 := by funext b; simp [Heap.join]
  rw [this]; exact hp
theorem sep_emp (P : HProp) : sep P emp = P := by rw [sep_comm, emp_sep]
/-! ### A world meets an assertion -/
structure Sat (σ w : World) (P : HProp) : Prop where
  os : w.os = σ.os
  tape : w.tape = σ.tape
  output : w.output = σ.output
  heap : ∃ h, P h ∧ ∀ b o, h b = some o → w.heap[b]? = some o
variable {σ w : World} {P Q R F : HProp}
theorem Sat.imp (h : Sat σ w P) (hpq : ∀ h, P h → Q h) : Sat σ w Q :=
  ⟨h.os, h.tape, h.output, let ⟨h1, hp, hh⟩ := h.heap; ⟨h1, hpq _ hp, hh⟩⟩
theorem Sat.drop (h : Sat σ w (sep (P) (Q))) : Sat σ w Q := by
  obtain ⟨h1, ⟨ha, hb, hd, rfl, hp, hq⟩, hh⟩ := h.heap
  refine ⟨h.os, h.tape, h.output, hb, hq, fun b o hbo => hh b o ?_⟩
  rcases hd b with h' | h'
  · simp [Heap.join, h', hbo]
  · simp [h'] at hbo
theorem Sat.left (h : Sat σ w (sep (P) (Q))) : Sat σ w P := by rw [sep_comm] at h; exact h.drop
theorem sat_lift {p : Prop} : Sat σ w (sep (lift p) (P)) ↔ p ∧ Sat σ w P := by
  constructor
  · intro h
    refine ⟨?_, h.drop⟩
    obtain ⟨h1, ⟨ha, hb, _, _, hp, _⟩, _⟩ := h.heap
    exact hp.1
  · rintro ⟨hp, h⟩
    have : lift p = emp := by funext h; simp [lift, emp, hp]
    rw [this, emp_sep]; exact h
theorem sat_ex {X : Type} {f : X → HProp} : Sat σ w (sep (ex f) (P)) ↔ ∃ x, Sat σ w (sep (f x) (P)) := by
  constructor
  · intro h
    obtain ⟨h1, ⟨ha, hb, hd, rfl, ⟨x, hx⟩, hp⟩, hh⟩ := h.heap
    exact ⟨x, h.os, h.tape, h.output, _, ⟨ha, hb, hd, rfl, hx, hp⟩, hh⟩
  · rintro ⟨x, h⟩
    obtain ⟨h1, ⟨ha, hb, hd, rfl, hx, hp⟩, hh⟩ := h.heap
    exact ⟨h.os, h.tape, h.output, _, ⟨ha, hb, hd, rfl, ⟨x, hx⟩, hp⟩, hh⟩
theorem Sat.blk {b : Nat} {o : Obj} (h : Sat σ w (sep (SLA.blk b o) (P))) : w.heap[b]? = some o := by
  obtain ⟨h1, ⟨ha, hb, hd, rfl, hp, hq⟩, hh⟩ := h.heap
  exact hh b o (by rw [show ha = fun k => if k = b then some o else none from hp]; simp [Heap.join])
/-- What a step that turns one block alone does. -/
theorem Sat.update {w' : World} {b : Nat} {o o' : Obj} (h : Sat σ w (sep (SLA.blk b o) (P))) (h1 : w'.os = w.os) (h2 : w'.tape = w.tape) (h3 : w'.output = w.output)
    (hn : w'.heap[b]? = some o') (ho : ∀ k, k ≠ b → w'.heap[k]? = w.heap[k]?) : Sat σ w' (sep (SLA.blk b o') (P)) := by
  obtain ⟨hx, ⟨ha, hb, hd, rfl, hp, hq⟩, hh⟩ := h.heap
  refine ⟨h1.trans h.os, h2.trans h.tape, h3.trans h.output, _, ⟨fun k => if k = b then some o' else none, hb, fun k => ?_, rfl, rfl, hq⟩, fun k u hk => ?_⟩
  · rcases hd k with h' | h'
    · rw [show ha = fun k => if k = b then some o else none from hp] at h'
      by_cases e : k = b
      · simp [e] at h'
      · simp [e]
    · exact .inr h'
  · by_cases e : k = b
    · subst e
      simp [Heap.join] at hk
      rw [hn, hk]
    · simp [Heap.join, e] at hk
      rw [ho k e]
      refine hh k u ?_
      rcases hd k with h' | h'
      · simp [Heap.join, h', hk]
      · simp [h'] at hk
theorem Sat.new {w' : World} {o : Obj} (h : Sat σ w P) (h1 : w'.os = w.os) (h2 : w'.tape = w.tape) (h3 : w'.output = w.output)
    (hn : w'.heap[w.heap.size]? = some o) (ho : ∀ k, k < w.heap.size → w'.heap[k]? = w.heap[k]?) : Sat σ w' (sep (SLA.blk w.heap.size o) (P)) := by
  obtain ⟨hx, hp, hh⟩ := h.heap
  have hlt : ∀ k u, hx k = some u → k < w.heap.size := fun k u hk => by
    have := hh k u hk
    exact (Array.getElem?_eq_some_iff.1 this).1
  refine ⟨h1.trans h.os, h2.trans h.tape, h3.trans h.output, _, ⟨fun k => if k = w.heap.size then some o else none, hx, fun k => ?_, rfl, rfl, hp⟩, fun k u hk => ?_⟩
  · by_cases e : k = w.heap.size
    · right
      cases hk : hx k with
      | none => rfl
      | some u => have := hlt k u hk; omega
    · simp [e]
  · by_cases e : k = w.heap.size
    · subst e
      simp [Heap.join] at hk
      rw [hn, hk]
    · simp [Heap.join, e] at hk
      rw [ho k (hlt k u hk)]
      exact hh k u hk
/-- A step that leaves every block. -/
theorem Sat.same {w' : World} (h : Sat σ w P) (h1 : w'.os = w.os) (h2 : w'.tape = w.tape) (h3 : w'.output = w.output)
    (ho : ∀ k, k < w.heap.size → w'.heap[k]? = w.heap[k]?) : Sat σ w' P := by
  obtain ⟨hx, hp, hh⟩ := h.heap
  refine ⟨h1.trans h.os, h2.trans h.tape, h3.trans h.output, hx, hp, fun k u hk => ?_⟩
  have := hh k u hk
  rw [ho k (Array.getElem?_eq_some_iff.1 this).1]
  exact this
theorem Sat.drew (h : Sat σ w P) : Sat σ w.drew P := h.same rfl rfl rfl (fun _ _ => rfl)
theorem Sat.drawn (h : Sat σ w P) (n : Nat) : Sat σ { w with drawn := n } P := h.same rfl rfl rfl (fun _ _ => rfl)
theorem Sat.alloc (h : Sat σ w P) (o : Obj) : Sat σ (w.alloc o) (sep (SLA.blk w.heap.size o) (P)) :=
  h.new rfl rfl rfl (heap_alloc_new w o) (fun k hk => heap_alloc_old w o hk)
/-! ### Old memory -/
theorem Sat.old_block {w0 : World} (h : Sat σ w (sep (old w0) (P))) : ∀ k, k < w0.heap.size → w.heap[k]? = w0.heap[k]? := by
  intro k hk
  obtain ⟨h1, ⟨ha, hb, hd, rfl, hp, hq⟩, hh⟩ := h.heap
  have e : w0.heap[k]? = some w0.heap[k] := Array.getElem?_eq_getElem hk
  rw [e]
  refine hh k _ ?_
  rw [show ha = fun k => if k < w0.heap.size then w0.heap[k]? else none from hp]
  simp [Heap.join, hk]
theorem Sat.start (w : World) : Sat w w (sep (old w) (emp)) := by
  refine ⟨rfl, rfl, rfl, fun k => if k < w.heap.size then w.heap[k]? else none, ?_, fun b o hb => ?_⟩
  · rw [sep_emp]; rfl
  · dsimp only at hb
    split at hb
    · exact hb
    · cases hb
open Go.RowKit in
theorem Sat.below {w0 : World} (h : Sat w0 w (sep (old w0) (P))) : Below w0.heap.size w0 w := by
  refine ⟨h.os, h.tape, h.output, ?_, fun k hk => h.old_block k hk⟩
  by_cases e : w0.heap.size = 0
  · omega
  · have := h.old_block (w0.heap.size - 1) (by omega)
    rw [Array.getElem?_eq_getElem (show w0.heap.size - 1 < w0.heap.size by omega)] at this
    have := (Array.getElem?_eq_some_iff.1 this).1
    omega
end Go.SLA
namespace Go.SLA
/-! ### What is known of a frame -/
abbrev Env := List (Nat × Value)
def Env.get : List (Nat × Value) → Nat → Option Value
  | [], _ => none
  | (j, v) :: l, i => bif Nat.beq j i then some v else Env.get l i
structure Agree (n : Nat) (E : Env) (a : Act) : Prop where
  defers : a.defers = []
  size : a.tmps.size = n
  slot : ∀ i v, Env.get E i = some v → a.tmps[i]? = some v
theorem Env.get_cons (j : Nat) (v : Value) (E : Env) (i : Nat) : Env.get ((j, v) :: E) i = if j = i then some v else Env.get E i := by
  simp only [Env.get]
  by_cases h : j = i
  · subst h; simp
  · have : Nat.beq j i = false := by rw [Bool.eq_false_iff]; exact fun e => h (Nat.eq_of_beq_eq_true e)
    simp [this, h]
theorem Agree.put {n : Nat} {E : Env} {a : Act} (h : Agree n E a) {d : Nat} (hd : d < n) (v : Value) : Agree n ((d, v) :: E) (a.put (some d) v) := by
  refine ⟨h.defers, by simp [Act.put, h.size], fun i u hi => ?_⟩
  rw [Env.get_cons] at hi
  simp only [Act.put]
  by_cases e : d = i
  · subst e
    simp at hi
    subst hi
    simp [h.size, hd]
  · simp only [e, if_false] at hi
    rw [Array.getElem?_setIfInBounds_ne e]
    exact h.slot i u hi
/-- Every slot of E' is known of E. -/
def Sub : Env → Env → Prop
  | [], _ => True
  | (i, v) :: l, E => Env.get E i = some v ∧ Sub l E
theorem Sub.get : ∀ {E' E : Env}, Sub E' E → ∀ i v, Env.get E' i = some v → Env.get E i = some v
  | [], _, _, i, v, h => by simp [Env.get] at h
  | (j, u) :: l, E, h, i, v, hi => by
    rw [Env.get_cons] at hi
    by_cases e : j = i
    · subst e
      simp at hi
      subst hi
      exact h.1
    · simp only [e, if_false] at hi
      exact Sub.get h.2 i v hi
theorem Agree.sub {n : Nat} {E E' : Env} {a : Act} (h : Agree n E a) (hs : Sub E' E) : Agree n E' a :=
  ⟨h.defers, h.size, fun i v hi => h.slot i v (hs.get i v hi)⟩
/-- An operand's value. -/
def ev (E : Env) : Operand → Option Value
  | .tmp t => Env.get E t
  | .const v => some v
  | .global g => some (.pointer (some ⟨g, 0, none⟩))
  | .func f => some (.func (.func f) #[] #[])
def evl (E : Env) : List Operand → Option (List Value)
  | [] => some []
  | x :: l => match ev E x, evl E l with
    | some v, some vs => some (v :: vs)
    | _, _ => none
theorem Agree.ev {n : Nat} {E : Env} {a : Act} (h : Agree n E a) {x : Operand} {v : Value} (hx : ev E x = some v) : a.eval x = v := by
  cases x with
  | tmp t =>
    have := h.slot t v hx
    simp [Act.eval, Array.getD_eq_getD_getElem?, this]
  | const u => simpa [SLA.ev, Act.eval] using hx
  | global g => simpa [SLA.ev, Act.eval] using hx
  | func f => simpa [SLA.ev, Act.eval] using hx
theorem Agree.evl {n : Nat} {E : Env} {a : Act} (h : Agree n E a) : ∀ {l : List Operand} {vs : List Value}, evl E l = some vs → l.map a.eval = vs
  | [], vs, hl => by simpa [SLA.evl] using hl
  | x :: l, vs, hl => by
    simp only [SLA.evl] at hl
    split at hl
    · rename_i v us hv hus
      simp only [Option.some.injEq] at hl
      subst hl
      rw [List.map_cons, h.ev hv, h.evl hus]
    · cases hl
/-- One assertion follows from another one: what is not asked for is dropped. -/
def Ent (P Q : HProp) : Prop := ∀ h, P h → ∃ h', (∀ b o, h' b = some o → h b = some o) ∧ Q h'
theorem Ent.pt {P Q : HProp} (e : ∀ h, P h → Q h) : Ent P Q := fun h hp => ⟨h, fun _ _ x => x, e h hp⟩
theorem Ent.of {P Q : HProp} (e : P = Q) : Ent P Q := Ent.pt fun _ h => e ▸ h
theorem Ent.refl (P : HProp) : Ent P P := Ent.pt fun _ h => h
theorem Ent.trans {P Q R : HProp} (h : Ent P Q) (k : Ent Q R) : Ent P R := fun x hx =>
  let ⟨y, hy, hq⟩ := h x hx
  let ⟨z, hz, hr⟩ := k y hq
  ⟨z, fun b o e => hy b o (hz b o e), hr⟩
theorem Ent.frame {P Q : HProp} (h : Ent P Q) (R : HProp) : Ent (sep (P) (R)) (sep (Q) (R)) := by
  rintro _ ⟨h1, h2, ha, rfl, hp, hr⟩
  obtain ⟨h1', hs, hq⟩ := h h1 hp
  have hn : ∀ b, h1 b = none → h1' b = none := fun b e => by
    cases e' : h1' b with
    | none => rfl
    | some o => rw [hs b o e'] at e; cases e
  refine ⟨Heap.join h1' h2, fun b o hb => ?_, h1', h2, fun b => (ha b).imp (hn b) id, rfl, hq, hr⟩
  simp only [Heap.join] at hb ⊢
  cases e : h1' b with
  | none =>
    rw [e] at hb
    simp only [Option.none_or] at hb
    rcases ha b with h' | h'
    · rw [h', Option.none_or, hb]
    · rw [h'] at hb; cases hb
  | some u =>
    rw [e] at hb
    simp only [Option.some_or, Option.some.injEq] at hb
    rw [hs b u e, hb, Option.some_or]
theorem Ent.frame_left {P Q : HProp} (h : Ent P Q) (R : HProp) : Ent (sep (R) (P)) (sep (R) (Q)) := by rw [sep_comm R P, sep_comm R Q]; exact h.frame R
theorem Ent.lift {p : Prop} {P : HProp} (h : p) : Ent P (sep (SLA.lift p) (P)) := by
  have : SLA.lift p = emp := by funext x; simp [SLA.lift, emp, h]
  rw [this, emp_sep]; exact Ent.refl _
theorem Ent.ex {X : Type} {f : X → HProp} {P : HProp} (x : X) : Ent (sep (f x) (P)) (sep (SLA.ex f) (P)) := Ent.pt fun _ ⟨h1, h2, ha, hj, hp, hr⟩ => ⟨h1, h2, ha, hj, ⟨x, hp⟩, hr⟩
theorem Ent.exo {X : Type} {f : X → HProp} (x : X) : Ent (f x) (SLA.ex f) := Ent.pt fun _ h => ⟨x, h⟩
theorem Ent.drop {P Q : HProp} : Ent (sep (P) (Q)) Q := by
  rintro _ ⟨h1, h2, ha, rfl, hp, hq⟩
  refine ⟨h2, fun b o hb => ?_, hq⟩
  rcases ha b with h | h
  · simp [Heap.join, h, hb]
  · rw [h] at hb; cases hb
theorem Ent.left {P Q : HProp} : Ent (sep (P) (Q)) P := by rw [sep_comm]; exact Ent.drop
theorem Sat.ent {σ w : World} {P Q : HProp} (h : Sat σ w P) (e : Ent P Q) : Sat σ w Q := by
  obtain ⟨h1, hp, hh⟩ := h.heap
  obtain ⟨h2, hs, hq⟩ := e h1 hp
  exact ⟨h.os, h.tape, h.output, h2, hq, fun b o hb => hh b o (hs b o hb)⟩
/-! ### The judgements -/
section
variable (prog : Program) (σ : World) (n : Nat)
def J (c : Code) (Q : Exit → Act → World → Prop) (E : Env) (P : HProp) : Prop := ∀ a w, Agree n E a → Sat σ w P → c.wp prog Q a w
def L (ops : Array Oper) (rest : List Oper) (Q : Exit → Act → World → Prop) (E : Env) (P : HProp) : Prop := ∀ a w, Agree n E a → Sat σ w P → wpList prog ops Q rest a w
def K (Q : Exit → Act → World → Prop) (e : Exit) (E : Env) (P : HProp) : Prop := ∀ a w, Agree n E a → Sat σ w P → Q e a w
end
/-- A continuation that no panic meets. -/
class NP (Q : Exit → Act → World → Prop) : Prop where
  no : ∀ c a w, ¬ Q (.panic c) a w
instance {R : Act → World → Prop} {Q : Exit → Act → World → Prop} [NP Q] : NP (Exit.then R Q) := ⟨fun c a w h => NP.no (Q := Q) c a w h⟩
instance {id : Nat} {Q : Exit → Act → World → Prop} [NP Q] : NP (Exit.inBlock id Q) := ⟨fun c a w h => NP.no (Q := Q) c a w h⟩
variable {prog : Program} {σ : World} {n : Nat} {Q : Exit → Act → World → Prop} {E E' : Env} {P P' R F : HProp} {ops : Array Oper} {rest : List Oper}
/-! ### Structure -/
theorem J_seq {x y : Code} (h : J prog σ n x (Exit.then (y.wp prog Q) Q) E P) : J prog σ n (.seq x y) Q E P := fun a w ha hs => wp_seq (h a w ha hs)
theorem J_skip (h : K σ n Q .normal E P) : J prog σ n .skip Q E P := fun a w ha hs => wp_skip (h a w ha hs)
theorem J_ret (h : K σ n Q .ret E P) : J prog σ n .ret Q E P := fun a w ha hs => wp_ret (h a w ha hs)
theorem J_exit {id : Nat} (h : K σ n Q (.exit id) E P) : J prog σ n (.exit id) Q E P := fun a w ha hs => wp_exit (h a w ha hs)
theorem J_label {l : Nat} (h : K σ n Q .normal E P) : J prog σ n (.label l) Q E P := fun a w ha hs => wp_label (h a w ha hs)
theorem J_goto {l : Nat} (h : K σ n Q (.goto l) E P) : J prog σ n (.goto l) Q E P := fun a w ha hs => wp_goto (h a w ha hs)
theorem J_block {id : Nat} {c : Code} (h : J prog σ n c (Exit.inBlock id Q) E P) : J prog σ n (.block id c) Q E P := fun a w ha hs => wp_block (h a w ha hs)
theorem J_region {id : Nat} {l : List Oper} (h : L prog σ n l.toArray l Q E P) : J prog σ n (.region id l.toArray false) Q E P :=
  fun a w ha hs => wp_region_lit (h a w ha hs)
theorem J_cond {c : Operand} {x y : Code} {p : Prop} [Decidable p] (hc : ev E c = some (.bool (decide p))) (ht : p → J prog σ n x Q E P) (hf : ¬ p → J prog σ n y Q E P) :
    J prog σ n (.cond c x y) Q E P := fun a w ha hs =>
  wp_cond_split (ha.ev hc) (fun h => ht (of_decide_eq_true h) a w ha hs) (fun h => hf (of_decide_eq_false h) a w ha hs)
theorem J_cond_true {c : Operand} {x y : Code} (hc : ev E c = some (.bool true)) (ht : J prog σ n x Q E P) : J prog σ n (.cond c x y) Q E P :=
  fun a w ha hs => wp_cond_true (ha.ev hc) (ht a w ha hs)
theorem J_cond_false {c : Operand} {x y : Code} (hc : ev E c = some (.bool false)) (ht : J prog σ n y Q E P) : J prog σ n (.cond c x y) Q E P :=
  fun a w ha hs => wp_cond_false (ha.ev hc) (ht a w ha hs)
theorem J_cond_bool {c : Operand} {x y : Code} {b : Bool} (hc : ev E c = some (.bool b)) (ht : b = true → J prog σ n x Q E P) (hf : b = false → J prog σ n y Q E P) :
    J prog σ n (.cond c x y) Q E P := fun a w ha hs => wp_cond_split (ha.ev hc) (fun h => ht h a w ha hs) (fun h => hf h a w ha hs)
theorem J_eq (P' : HProp) (e : P = P') {c : Code} (h : J prog σ n c Q E P') : J prog σ n c Q E P := e ▸ h
theorem L_eq (P' : HProp) (e : P = P') (h : L prog σ n ops rest Q E P') : L prog σ n ops rest Q E P := e ▸ h
theorem J_imp (P' : HProp) (e : Ent P P') {c : Code} (h : J prog σ n c Q E P') : J prog σ n c Q E P := fun a w ha hw => h a w ha (hw.ent e)
theorem L_imp (P' : HProp) (e : Ent P P') (h : L prog σ n ops rest Q E P') : L prog σ n ops rest Q E P := fun a w ha hw => h a w ha (hw.ent e)
/-- What follows for a world from the assertion may be used. -/
theorem J_know {φ : Prop} (hk : ∀ w, Sat σ w P → φ) {c : Code} (h : φ → J prog σ n c Q E P) : J prog σ n c Q E P := fun a w ha hw => h (hk w hw) a w ha hw
theorem J_ex {X : Type} {f : X → HProp} {c : Code} (h : ∀ x, J prog σ n c Q E (sep (f x) (P))) : J prog σ n c Q E (sep (ex f) (P)) :=
  fun a w ha hw => let ⟨x, hx⟩ := sat_ex.1 hw; h x a w ha hx
theorem L_nil (h : K σ n Q .normal E P) : L prog σ n ops [] Q E P := fun a w ha hs => wpList_nil (h a w ha hs)
/-- An intermediate assertion: what stands behind a piece of code is proved once. -/
theorem J_cut {X : Type} {x y : Code} (E' : X → Env) (P' : X → HProp) (φ : X → Prop)
    (h1 : J prog σ n x (Exit.then (fun a w => ∃ i, φ i ∧ Agree n (E' i) a ∧ Sat σ w (P' i)) Q) E P) (h2 : ∀ i, φ i → J prog σ n y Q (E' i) (P' i)) : J prog σ n (.seq x y) Q E P :=
  J_seq fun a w ha hs => wp_mono (h1 a w ha hs) fun e a' w' he => by
    cases e with
    | normal => obtain ⟨i, hi, ha', hs'⟩ := he; exact h2 i hi a' w' ha' hs'
    | _ => exact he
theorem K_cut {X : Type} {E' : X → Env} {P' : X → HProp} {φ : X → Prop} {Q' : Exit → Act → World → Prop} (i : X) (hi : φ i) (hs : Sub (E' i) E) (hp : Ent P (P' i)) :
    K σ n (Exit.then (fun a w => ∃ i, φ i ∧ Agree n (E' i) a ∧ Sat σ w (P' i)) Q') .normal E P :=
  fun _ _ ha hw => ⟨i, hi, ha.sub hs, hw.ent hp⟩
/-! ### Behind a piece -/
theorem K_then {y : Code} (h : J prog σ n y Q E P) : K σ n (Exit.then (y.wp prog Q) Q) .normal E P := fun a w ha hs => h a w ha hs
theorem K_then_ret {X : Act → World → Prop} (h : K σ n Q .ret E P) : K σ n (Exit.then X Q) .ret E P := h
theorem K_then_exit {X : Act → World → Prop} {id : Nat} (h : K σ n Q (.exit id) E P) : K σ n (Exit.then X Q) (.exit id) E P := h
theorem K_then_goto {X : Act → World → Prop} {id : Nat} (h : K σ n Q (.goto id) E P) : K σ n (Exit.then X Q) (.goto id) E P := h
theorem K_block {id : Nat} (h : K σ n Q .normal E P) : K σ n (Exit.inBlock id Q) .normal E P := h
theorem K_block_ret {id : Nat} (h : K σ n Q .ret E P) : K σ n (Exit.inBlock id Q) .ret E P := h
theorem K_block_here {id : Nat} (h : K σ n Q .normal E P) : K σ n (Exit.inBlock id Q) (.exit id) E P :=
  fun a w ha hs => by simp only [Exit.inBlock, if_true]; exact h a w ha hs
/-! ### A loop -/
theorem J_loop {X : Type} {c : Code} (E' : X → Env) (P' : X → HProp) (φ : X → Prop) (μ : X → Nat) (x0 : X) (h0 : φ x0) (hs : Sub (E' x0) E) (hp : Ent P (P' x0))
    (round : ∀ x, φ x → J prog σ n c (Exit.then (fun a w => ∃ y, (φ y ∧ μ y < μ x) ∧ Agree n (E' y) a ∧ Sat σ w (P' y)) Q) (E' x) (P' x)) : J prog σ n (.loop c) Q E P := by
  intro a w ha hw b k cs
  have key : ∀ m x a w, μ x = m → φ x → Agree n (E' x) a → Sat σ w (P' x) →
      ∃ e a' w', Q e a' w' ∧ Arrives prog (lone (b.at a (.code c :: .inLoop c :: k)) cs w) b k cs e a' w' := by
    intro m
    induction m using Nat.strongRecOn with
    | _ m ih =>
      intro x a w hm hx ha hw
      obtain ⟨e, a₁, w₁, hq, harr⟩ := round x hx a w ha hw b (.inLoop c :: k) cs
      cases e with
      | normal =>
        obtain ⟨y, ⟨hy, hlt⟩, ha₁, hw₁⟩ := hq
        obtain ⟨e₂, a₂, w₂, hq₂, harr₂⟩ := ih (μ y) (hm ▸ hlt) y a₁ w₁ rfl hy ha₁ hw₁
        exact ⟨e₂, a₂, w₂, hq₂, .of_steps (Steps.trans harr (.one step_inLoop)) harr₂⟩
      | exit id => exact ⟨_, a₁, w₁, hq, .pass (x := .inLoop c) rfl (fun _ _ => .inl (by simp)) harr⟩
      | goto l => exact ⟨_, a₁, w₁, hq, .pass (x := .inLoop c) rfl (fun _ _ => .inl (by simp)) harr⟩
      | ret => exact ⟨_, a₁, w₁, hq, .pass (x := .inLoop c) rfl (fun _ _ => .inl (by simp)) harr⟩
      | panic ch => exact ⟨_, a₁, w₁, hq, .pass (x := .inLoop c) rfl (fun _ _ => .inl (by simp)) harr⟩
      | outgrown => exact ⟨_, a₁, w₁, hq, .pass (x := .inLoop c) rfl (fun _ _ => .inl (by simp)) harr⟩
  obtain ⟨e, a', w', hq, harr⟩ := key _ x0 a w rfl h0 (ha.sub hs) (hw.ent hp)
  exact ⟨e, a', w', hq, .of_steps (.one step_loop) harr⟩
theorem K_loop {X : Type} {E' : X → Env} {P' : X → HProp} {φ : X → Prop} {μ : X → Nat} {x : X} {Q' : Exit → Act → World → Prop} (y : X) (hy : φ y) (hm : μ y < μ x) (hs : Sub (E' y) E) (hp : Ent P (P' y)) :
    K σ n (Exit.then (fun a w => ∃ y, (φ y ∧ μ y < μ x) ∧ Agree n (E' y) a ∧ Sat σ w (P' y)) Q') .normal E P :=
  fun _ _ ha hw => ⟨y, ⟨hy, hm⟩, ha.sub hs, hw.ent hp⟩
/-! ### A function -/
/-- From P the call returns val x for some x with φ x, and leaves Qo x: whatever stands beside P stays. -/
def FSpec (prog : Program) (f : FuncId) (args : Array Value) (P : HProp) {X : Type} (φ : X → Prop) (val : X → Value) (Qo : X → HProp) : Prop :=
  ∀ (σ w : World) (F : HProp), Sat σ w (sep (P) (F)) → Calls prog f args w fun e w' => ∃ x, φ x ∧ e = .returned (val x) ∧ Sat σ w' (sep (Qo x) (F))
def Back (σ : World) {X : Type} (φ : X → Prop) (val : X → Value) (Qo : X → HProp) (F : HProp) (e : Ending) (w' : World) : Prop :=
  ∃ x, φ x ∧ e = .returned (val x) ∧ Sat σ w' (sep (Qo x) (F))
instance {fn : Func} {X : Type} {φ : X → Prop} {val : X → Value} {Qo : X → HProp} : NP (bodyPost prog fn (Back σ φ val Qo F)) :=
  ⟨fun c a w h => by obtain ⟨_, x, _, he, _⟩ := h; cases he⟩
/-- A frame as it begins. -/
def Env.ofArgs : Nat → List Value → Env
  | _, [] => []
  | i, v :: l => (i, v) :: Env.ofArgs (i + 1) l
theorem Env.get_ofArgs : ∀ (l : List Value) (k i : Nat) (v : Value), Env.get (Env.ofArgs k l) i = some v → k ≤ i ∧ l[i - k]? = some v
  | [], k, i, v, h => by simp [Env.ofArgs, Env.get] at h
  | u :: l, k, i, v, h => by
    simp only [Env.ofArgs] at h
    rw [Env.get_cons] at h
    by_cases e : k = i
    · subst e
      simp at h
      simp [h]
    · simp only [e, if_false] at h
      obtain ⟨h1, h2⟩ := Env.get_ofArgs l (k + 1) i v h
      refine ⟨by omega, ?_⟩
      rw [show i - k = (i - (k + 1)) + 1 by omega]
      simpa using h2
theorem FSpec.enter {f : FuncId} {fn : Func} {c : Code} {args : List Value} {X : Type} {φ : X → Prop} {val : X → Value} {Qo : X → HProp} (hf : prog.funcs[f]? = some fn) (hb : fn.body = some c)
    (hn : Nat.ble args.length fn.ntmps = true)
    (h : ∀ σ F, J prog σ fn.ntmps c (bodyPost prog fn (Back σ φ val Qo F)) (Env.ofArgs 0 args) (sep (P) (F))) : FSpec prog f args.toArray P φ val Qo := by
  intro σ w F hs
  refine calls_of_wp hf hb ?_
  refine h σ F _ w ⟨rfl, ?_, ?_⟩ hs
  · have := Nat.le_of_ble_eq_true hn
    simp
    omega
  · intro i v hi
    obtain ⟨_, h2⟩ := Env.get_ofArgs args 0 i v hi
    have h2 : args[i]? = some v := h2
    have hlt : i < args.length := by
      rcases Nat.lt_or_ge i args.length with h | h
      · exact h
      · rw [List.getElem?_eq_none h] at h2; cases h2
    rw [Array.getElem?_append_left (by simpa using hlt)]
    simpa using h2
theorem FSpec.enter' {f : FuncId} {fn : Func} {c : Code} {m : Nat} {args : List Value} {X : Type} {φ : X → Prop} {val : X → Value} {Qo : X → HProp} (hf : prog.funcs[f]? = some fn) (hb : fn.body = some c)
    (hm : fn.ntmps = m) (hn : Nat.ble args.length m = true)
    (h : ∀ σ F, J prog σ m c (bodyPost prog fn (Back σ φ val Qo F)) (Env.ofArgs 0 args) (sep (P) (F))) : FSpec prog f args.toArray P φ val Qo :=
  by subst hm; exact FSpec.enter hf hb hn h
theorem L_emp (h : L prog σ n ops rest Q E P) : L prog σ n ops rest Q E (sep (emp) (P)) := by rw [emp_sep]; exact h
theorem J_emp {c : Code} (h : J prog σ n c Q E P) : J prog σ n c Q E (sep (emp) (P)) := by rw [emp_sep]; exact h
theorem K_ret0 {fn : Func} {X : Type} {φ : X → Prop} {val : X → Value} {Qo : X → HProp} (hr : fn.results = #[]) (x : X) (hx : φ x) (hv : val x = .tuple #[]) (hp : Ent P (sep (Qo x) (F))) :
    K σ n (bodyPost prog fn (Back σ φ val Qo F)) .ret E P := fun a w ha hs =>
  ⟨ha.defers, _, results_none hr a.tmps prog w, x, hx, by rw [hv], hs.ent hp⟩
theorem K_end0 {fn : Func} {X : Type} {φ : X → Prop} {val : X → Value} {Qo : X → HProp} (hr : fn.results = #[]) (x : X) (hx : φ x) (hv : val x = .tuple #[]) (hp : Ent P (sep (Qo x) (F))) :
    K σ n (bodyPost prog fn (Back σ φ val Qo F)) .normal E P := fun a w ha hs =>
  ⟨ha.defers, _, results_none hr a.tmps prog w, x, hx, by rw [hv], hs.ent hp⟩
theorem K_ret1 {fn : Func} {t : Tmp} {v : Value} {X : Type} {φ : X → Prop} {val : X → Value} {Qo : X → HProp} (hr : fn.results = #[.tmp t]) (hv : Env.get E t = some v) (x : X) (hx : φ x) (hvx : v = val x) (hp : Ent P (sep (Qo x) (F))) :
    K σ n (bodyPost prog fn (Back σ φ val Qo F)) .ret E P := fun a w ha hs =>
  ⟨ha.defers, _, results_tmp hr a.tmps prog w, x, hx, by rw [Array.getD_eq_getD_getElem?, ha.slot t v hv]; exact congrArg _ hvx, hs.ent hp⟩
theorem K_ret2 {fn : Func} {t u : Tmp} {v v' : Value} {X : Type} {φ : X → Prop} {val : X → Value} {Qo : X → HProp} (hr : fn.results = #[.tmp t, .tmp u]) (hv : Env.get E t = some v) (hv' : Env.get E u = some v') (x : X) (hx : φ x)
    (hvx : .tuple #[v, v'] = val x) (hp : Ent P (sep (Qo x) (F))) : K σ n (bodyPost prog fn (Back σ φ val Qo F)) .ret E P := fun a w ha hs =>
  ⟨ha.defers, _, results_tmp2 hr a.tmps prog w, x, hx, by rw [Array.getD_eq_getD_getElem?, Array.getD_eq_getD_getElem?, ha.slot t v hv, ha.slot u v' hv']; exact congrArg _ hvx, hs.ent hp⟩
end Go.SLA
namespace Go.SLA
/-! ### Facts of a program, each closed by the kernel -/
def undB (prog : Program) (t : TypeId) (f : TypeDesc → Bool) : Bool := match prog.underlying t with | some d => f d | none => false
def infB (prog : Program) (t : TypeId) (f : TypeInfo → Bool) : Bool := match prog.info? t with | some d => f d | none => false
theorem undB_spec {prog : Program} {t : TypeId} {f : TypeDesc → Bool} (h : undB prog t f = true) : ∃ d, prog.underlying t = some d ∧ f d = true := by
  unfold undB at h; split at h
  · exact ⟨_, by assumption, h⟩
  · cases h
theorem infB_spec {prog : Program} {t : TypeId} {f : TypeInfo → Bool} (h : infB prog t f = true) : ∃ d, prog.info? t = some d ∧ f d = true := by
  unfold infB at h; split at h
  · exact ⟨_, by assumption, h⟩
  · cases h
def isAggD : TypeDesc → Bool | .struct _ | .array _ _ => true | _ => false
/-- A type of one cell, neither a struct nor an array. -/
class One (prog : Program) (t : TypeId) : Prop where
  b : (undB prog t (fun d => !isAggD d) && infB prog t (fun i => Nat.beq i.size 1)) = true
/-- A struct or an array of m cells. -/
class Agg (prog : Program) (t : TypeId) (m : outParam Nat) : Prop where
  b : (undB prog t isAggD && infB prog t (fun i => Nat.beq i.size m)) = true
/-- Field f of the struct t stands at off, and is a type of m cells. -/
def fldB (prog : Program) (t : TypeId) (f off m : Nat) : Bool := undB prog t fun
  | .struct fs => match fs[f]? with
    | some fl => Nat.beq fl.offset off && infB prog fl.type (fun i => Nat.beq i.size m && Nat.blt 0 i.size)
    | none => false
  | _ => false
class Fld (prog : Program) (t : TypeId) (f : Nat) (off m : outParam Nat) : Prop where
  b : fldB prog t f off m = true
/-- A slice type, its element type and the element's cells. -/
def slcB (prog : Program) (t e m : Nat) : Bool := undB prog t (fun | .slice e' => Nat.beq e' e | _ => false) && infB prog e (fun i => Nat.beq i.size m)
class Slc (prog : Program) (t : TypeId) (e m : outParam Nat) : Prop where
  b : slcB prog t e m = true
def arrB (prog : Program) (t k e m : Nat) : Bool := undB prog t (fun | .array k' e' => Nat.beq e' e && Nat.beq k' k | _ => false) && infB prog e (fun i => Nat.beq i.size m)
class Arr (prog : Program) (t : TypeId) (k e m : outParam Nat) : Prop where
  b : arrB prog t k e m = true
class Str (prog : Program) (t : TypeId) : Prop where
  b : undB prog t (fun | .string => true | _ => false) = true
class IntT (prog : Program) (t : TypeId) (k : outParam IntKind) : Prop where
  b : undB prog t (fun | .int k' => decide (k' = k) | _ => false) = true
class PtrT (prog : Program) (t : TypeId) : Prop where
  b : undB prog t (fun | .pointer _ => true | _ => false) = true
variable {prog : Program} {σ : World} {n : Nat} {Q : Exit → Act → World → Prop} {E E' : Env} {P P' R F : HProp} {ops : Array Oper} {rest : List Oper}
theorem One.spec (t : TypeId) [h : One prog t] : ∃ d i, prog.underlying t = some d ∧ isAggD d = false ∧ prog.info? t = some i ∧ i.size = 1 := by
  have := h.b
  simp only [Bool.and_eq_true] at this
  obtain ⟨d, hd, h1⟩ := undB_spec this.1
  obtain ⟨i, hi, h2⟩ := infB_spec this.2
  exact ⟨d, i, hd, by simpa using h1, hi, Nat.eq_of_beq_eq_true h2⟩
theorem Agg.spec (t m : Nat) [h : Agg prog t m] : ∃ d i, prog.underlying t = some d ∧ isAggD d = true ∧ prog.info? t = some i ∧ i.size = m := by
  have := h.b
  simp only [Bool.and_eq_true] at this
  obtain ⟨d, hd, h1⟩ := undB_spec this.1
  obtain ⟨i, hi, h2⟩ := infB_spec this.2
  exact ⟨d, i, hd, h1, hi, Nat.eq_of_beq_eq_true h2⟩
theorem Fld.spec (t f off m : Nat) [h : Fld prog t f off m] : ∃ fs fl i, prog.underlying t = some (.struct fs) ∧ fs[f]? = some fl ∧ fl.offset = off ∧ prog.info? fl.type = some i ∧ i.size = m ∧ 0 < i.size := by
  obtain ⟨d, hd, h1⟩ := undB_spec h.b
  split at h1
  · split at h1
    · rename_i fs _ fl hfl
      simp only [Bool.and_eq_true] at h1
      obtain ⟨i, hi, h2⟩ := infB_spec h1.2
      simp only [Bool.and_eq_true] at h2
      exact ⟨fs, fl, i, hd, hfl, Nat.eq_of_beq_eq_true h1.1, hi, Nat.eq_of_beq_eq_true h2.1, Nat.le_of_ble_eq_true h2.2⟩
    · cases h1
  · cases h1
theorem Slc.spec (t e m : Nat) [h : Slc prog t e m] : prog.underlying t = some (.slice e) ∧ ∃ i, prog.info? e = some i ∧ i.size = m := by
  have := h.b
  unfold slcB at this
  simp only [Bool.and_eq_true] at this
  obtain ⟨d, hd, h1⟩ := undB_spec this.1
  obtain ⟨i, hi, h2⟩ := infB_spec this.2
  refine ⟨?_, i, hi, Nat.eq_of_beq_eq_true h2⟩
  split at h1
  · rw [hd, Nat.eq_of_beq_eq_true h1]
  · cases h1
theorem Arr.spec (t k e m : Nat) [h : Arr prog t k e m] : prog.underlying t = some (.array k e) ∧ ∃ i, prog.info? e = some i ∧ i.size = m := by
  have := h.b
  unfold arrB at this
  simp only [Bool.and_eq_true] at this
  obtain ⟨d, hd, h1⟩ := undB_spec this.1
  obtain ⟨i, hi, h2⟩ := infB_spec this.2
  refine ⟨?_, i, hi, Nat.eq_of_beq_eq_true h2⟩
  split at h1
  · simp only [Bool.and_eq_true] at h1
    rw [hd, Nat.eq_of_beq_eq_true h1.1, Nat.eq_of_beq_eq_true h1.2]
  · cases h1
theorem Str.spec (t : TypeId) [h : Str prog t] : prog.underlying t = some .string := by
  obtain ⟨d, hd, h1⟩ := undB_spec h.b
  split at h1
  · exact hd
  · cases h1
theorem IntT.spec (t : TypeId) (k : IntKind) [h : IntT prog t k] : prog.underlying t = some (.int k) := by
  obtain ⟨d, hd, h1⟩ := undB_spec h.b
  split at h1
  · rw [hd, of_decide_eq_true h1]
  · cases h1
theorem PtrT.spec (t : TypeId) [h : PtrT prog t] : ∃ e, prog.underlying t = some (.pointer e) := by
  obtain ⟨d, hd, h1⟩ := undB_spec h.b
  split at h1
  · exact ⟨_, hd⟩
  · cases h1
theorem run_typeInfo' {t : TypeId} {i : TypeInfo} {w : World} (h : prog.info? t = some i) : (typeInfo t).run prog w = .ok i w := by
  simp [typeInfo, h]
theorem run_sizeOf' {t : TypeId} {i : TypeInfo} {w : World} (h : prog.info? t = some i) : (sizeOf t).run prog w = .ok i.size w := by
  simp [sizeOf, run_typeInfo' h]
theorem run_und' {t : TypeId} {d : TypeDesc} {w : World} (h : prog.underlying t = some d) : (underlying t).run prog w = .ok d w := by
  simp [underlying, h]
theorem run_isAgg' {t : TypeId} {d : TypeDesc} {w : World} (h : prog.underlying t = some d) : (isAgg t).run prog w = .ok (isAggD d) w := by
  unfold isAgg
  rw [Sem.run_bind, run_und' h, Result.andThen_ok]
  unfold isAggD
  cases d <;> rfl
/-! ### Addresses in one form -/
/-- Cell o of block b. -/
@[reducible] def ad (b o : Nat) : Addr := ⟨b, o, none⟩
theorem ad_add (b o k : Nat) : (ad b o).add k = ad b (o + k) := by
  unfold Addr.add ad
  split
  · subst_vars; rfl
  · rfl
/-! ### What an operation yields without a trace -/
section
variable (prog) (σ) (n)
def OpV (E : Env) (P : HProp) (o : Oper) (v : Value) : Prop := ∀ a w, Agree n E a → Sat σ w P → (execOp a.eval o).run prog w = .ok (.value v) w
end
section
variable {d : Option Tmp} {ty : TypeId} {pos : String} {aft : Array Edge} {g : Option (Nat × Bool)} {x y z : Operand} {t t' : TypeId} {k : IntKind} {a b : Int} {v u : Value} {s r : ByteArray}
theorem opv_move (hx : ev E x = some v) : OpV prog σ n E P ⟨d, .move x, ty, pos, aft, g⟩ v := fun _ _ ha _ => by simp [execOp, ha.ev hx]
theorem opv_assign (hx : ev E x = some v) : OpV prog σ n E P ⟨d, .assign x, ty, pos, aft, g⟩ v := fun _ _ ha _ => by simp [execOp, ha.ev hx]
theorem opv_pick_t {p : Prop} [Decidable p] (hx : ev E x = some (.bool (decide p))) (hp : p) (hy : ev E y = some v) : OpV prog σ n E P ⟨d, .pick x y z, ty, pos, aft, g⟩ v :=
  fun _ _ ha _ => by simp [execOp, ha.ev hx, ha.ev hy, asBool, hp]
theorem opv_pick_f {p : Prop} [Decidable p] (hx : ev E x = some (.bool (decide p))) (hp : ¬ p) (hz : ev E z = some v) : OpV prog σ n E P ⟨d, .pick x y z, ty, pos, aft, g⟩ v :=
  fun _ _ ha _ => by simp [execOp, ha.ev hx, ha.ev hz, asBool, hp]
theorem opv_pick_tt (hx : ev E x = some (.bool true)) (hy : ev E y = some v) : OpV prog σ n E P ⟨d, .pick x y z, ty, pos, aft, g⟩ v :=
  fun _ _ ha _ => by simp [execOp, ha.ev hx, ha.ev hy, asBool]
theorem opv_pick_ff (hx : ev E x = some (.bool false)) (hz : ev E z = some v) : OpV prog σ n E P ⟨d, .pick x y z, ty, pos, aft, g⟩ v :=
  fun _ _ ha _ => by simp [execOp, ha.ev hx, ha.ev hz, asBool]
theorem opv_add (hx : ev E x = some (.int k a)) (hy : ev E y = some (.int k b)) : OpV prog σ n E P ⟨d, .binOp .add t x y t', ty, pos, aft, g⟩ (.int k (k.wrap (a + b))) :=
  fun _ _ ha _ => by simp [execOp, ha.ev hx, ha.ev hy, eqGuard, binOp, Op.intArith]
theorem opv_sub (hx : ev E x = some (.int k a)) (hy : ev E y = some (.int k b)) : OpV prog σ n E P ⟨d, .binOp .sub t x y t', ty, pos, aft, g⟩ (.int k (k.wrap (a - b))) :=
  fun _ _ ha _ => by simp [execOp, ha.ev hx, ha.ev hy, eqGuard, binOp, Op.intArith]
theorem opv_mul (hx : ev E x = some (.int k a)) (hy : ev E y = some (.int k b)) : OpV prog σ n E P ⟨d, .binOp .mul t x y t', ty, pos, aft, g⟩ (.int k (k.wrap (a * b))) :=
  fun _ _ ha _ => by simp [execOp, ha.ev hx, ha.ev hy, eqGuard, binOp, Op.intArith]
theorem wrap_i64 {m : Int} (h : -9223372036854775808 ≤ m ∧ m ≤ 9223372036854775807) : IntKind.i64.wrap m = m := Go.IntWalk.i64_in m h
theorem opv_add64 (hx : ev E x = some (.int .i64 a)) (hy : ev E y = some (.int .i64 b)) (h : -9223372036854775808 ≤ a + b ∧ a + b ≤ 9223372036854775807) : OpV prog σ n E P ⟨d, .binOp .add t x y t', ty, pos, aft, g⟩ (.int .i64 (a + b)) := by
  have := opv_add (prog := prog) (σ := σ) (n := n) (P := P) (d := d) (ty := ty) (pos := pos) (aft := aft) (g := g) (t := t) (t' := t') hx hy
  rwa [wrap_i64 h] at this
theorem opv_sub64 (hx : ev E x = some (.int .i64 a)) (hy : ev E y = some (.int .i64 b)) (h : -9223372036854775808 ≤ a - b ∧ a - b ≤ 9223372036854775807) : OpV prog σ n E P ⟨d, .binOp .sub t x y t', ty, pos, aft, g⟩ (.int .i64 (a - b)) := by
  have := opv_sub (prog := prog) (σ := σ) (n := n) (P := P) (d := d) (ty := ty) (pos := pos) (aft := aft) (g := g) (t := t) (t' := t') hx hy
  rwa [wrap_i64 h] at this
theorem opv_mul64 (hx : ev E x = some (.int .i64 a)) (hy : ev E y = some (.int .i64 b)) (h : -9223372036854775808 ≤ a * b ∧ a * b ≤ 9223372036854775807) : OpV prog σ n E P ⟨d, .binOp .mul t x y t', ty, pos, aft, g⟩ (.int .i64 (a * b)) := by
  have := opv_mul (prog := prog) (σ := σ) (n := n) (P := P) (d := d) (ty := ty) (pos := pos) (aft := aft) (g := g) (t := t) (t' := t') hx hy
  rwa [wrap_i64 h] at this
theorem opv_quo (hx : ev E x = some (.int k a)) (hy : ev E y = some (.int k b)) (h : b ≠ 0) : OpV prog σ n E P ⟨d, .binOp .quo t x y t', ty, pos, aft, g⟩ (.int k (k.wrap (a.tdiv b))) :=
  fun _ _ ha _ => by simp [execOp, ha.ev hx, ha.ev hy, eqGuard, binOp, Op.intDiv, h]
theorem opv_rem (hx : ev E x = some (.int k a)) (hy : ev E y = some (.int k b)) (h : b ≠ 0) : OpV prog σ n E P ⟨d, .binOp .rem t x y t', ty, pos, aft, g⟩ (.int k (a.tmod b)) :=
  fun _ _ ha _ => by simp [execOp, ha.ev hx, ha.ev hy, eqGuard, binOp, Op.intDiv, h]
theorem opv_and (hx : ev E x = some (.int k a)) (hy : ev E y = some (.int k b)) : OpV prog σ n E P ⟨d, .binOp .and t x y t', ty, pos, aft, g⟩ (.int k (k.wrap (BitVec.ofInt k.bits a &&& BitVec.ofInt k.bits b).toNat)) :=
  fun _ _ ha _ => by simp [execOp, ha.ev hx, ha.ev hy, eqGuard, binOp, Op.intBits]
theorem opv_or (hx : ev E x = some (.int k a)) (hy : ev E y = some (.int k b)) : OpV prog σ n E P ⟨d, .binOp .or t x y t', ty, pos, aft, g⟩ (.int k (k.wrap (BitVec.ofInt k.bits a ||| BitVec.ofInt k.bits b).toNat)) :=
  fun _ _ ha _ => by simp [execOp, ha.ev hx, ha.ev hy, eqGuard, binOp, Op.intBits]
theorem opv_xor (hx : ev E x = some (.int k a)) (hy : ev E y = some (.int k b)) : OpV prog σ n E P ⟨d, .binOp .xor t x y t', ty, pos, aft, g⟩ (.int k (k.wrap (BitVec.ofInt k.bits a ^^^ BitVec.ofInt k.bits b).toNat)) :=
  fun _ _ ha _ => by simp [execOp, ha.ev hx, ha.ev hy, eqGuard, binOp, Op.intBits]
theorem opv_shl {yk : IntKind} (hx : ev E x = some (.int k a)) (hy : ev E y = some (.int yk b)) (h : 0 ≤ b) : OpV prog σ n E P ⟨d, .binOp .shl t x y t', ty, pos, aft, g⟩ (.int k (k.wrap (a * 2 ^ (min b.toNat k.bits)))) :=
  fun _ _ ha _ => by simp [execOp, ha.ev hx, ha.ev hy, eqGuard, binOp, Op.shift, show ¬ b < 0 by omega]
theorem opv_shr {yk : IntKind} (hx : ev E x = some (.int k a)) (hy : ev E y = some (.int yk b)) (h : 0 ≤ b) : OpV prog σ n E P ⟨d, .binOp .shr t x y t', ty, pos, aft, g⟩ (.int k (a.fdiv (2 ^ (min b.toNat k.bits)))) :=
  fun _ _ ha _ => by simp [execOp, ha.ev hx, ha.ev hy, eqGuard, binOp, Op.shift, show ¬ b < 0 by omega]
theorem opv_eql (hx : ev E x = some (.int k a)) (hy : ev E y = some (.int k b)) : OpV prog σ n E P ⟨d, .binOp .eql t x y t', ty, pos, aft, g⟩ (.bool (decide (a = b))) :=
  fun _ _ ha _ => by simp [execOp, ha.ev hx, ha.ev hy, eqGuard, binOp, Op.intCmp]; rfl
theorem opv_neq (hx : ev E x = some (.int k a)) (hy : ev E y = some (.int k b)) : OpV prog σ n E P ⟨d, .binOp .neq t x y t', ty, pos, aft, g⟩ (.bool (decide (a ≠ b))) :=
  fun _ _ ha _ => by
    have : (a != b) = decide (a ≠ b) := by by_cases h : a = b <;> simp [h]
    simp [execOp, ha.ev hx, ha.ev hy, eqGuard, binOp, Op.intCmp, this]
theorem opv_lss (hx : ev E x = some (.int k a)) (hy : ev E y = some (.int k b)) : OpV prog σ n E P ⟨d, .binOp .lss t x y t', ty, pos, aft, g⟩ (.bool (decide (a < b))) :=
  fun _ _ ha _ => by simp [execOp, ha.ev hx, ha.ev hy, eqGuard, binOp, Op.intCmp]
theorem opv_leq (hx : ev E x = some (.int k a)) (hy : ev E y = some (.int k b)) : OpV prog σ n E P ⟨d, .binOp .leq t x y t', ty, pos, aft, g⟩ (.bool (decide (a ≤ b))) :=
  fun _ _ ha _ => by simp [execOp, ha.ev hx, ha.ev hy, eqGuard, binOp, Op.intCmp]
theorem opv_gtr (hx : ev E x = some (.int k a)) (hy : ev E y = some (.int k b)) : OpV prog σ n E P ⟨d, .binOp .gtr t x y t', ty, pos, aft, g⟩ (.bool (decide (b < a))) :=
  fun _ _ ha _ => by simp [execOp, ha.ev hx, ha.ev hy, eqGuard, binOp, Op.intCmp]
theorem opv_geq (hx : ev E x = some (.int k a)) (hy : ev E y = some (.int k b)) : OpV prog σ n E P ⟨d, .binOp .geq t x y t', ty, pos, aft, g⟩ (.bool (decide (b ≤ a))) :=
  fun _ _ ha _ => by simp [execOp, ha.ev hx, ha.ev hy, eqGuard, binOp, Op.intCmp]
theorem ByteArray_toList_inj {s r : ByteArray} (e : s.toList = r.toList) : s = r := by
  rw [Go.ByteArray.toList_eq, Go.ByteArray.toList_eq] at e
  cases s; cases r
  simp only at e
  rw [Array.toList_inj.1 e]
theorem bytes_beq (s r : ByteArray) : (s.toList == r.toList) = decide (s = r) := by
  by_cases h : s = r
  · subst h; simp
  · have : s.toList ≠ r.toList := fun e => h (ByteArray_toList_inj e)
    simp [h, this]
theorem opv_eqlS (hx : ev E x = some (.string s)) (hy : ev E y = some (.string r)) : OpV prog σ n E P ⟨d, .binOp .eql t x y t', ty, pos, aft, g⟩ (.bool (decide (s = r))) :=
  fun _ _ ha _ => by simp [execOp, ha.ev hx, ha.ev hy, eqGuard, binOp, Op.stringOp, bytes_beq]
theorem opv_neqS (hx : ev E x = some (.string s)) (hy : ev E y = some (.string r)) : OpV prog σ n E P ⟨d, .binOp .neq t x y t', ty, pos, aft, g⟩ (.bool (decide (s ≠ r))) :=
  fun _ _ ha _ => by
    have : (!decide (s = r)) = decide (s ≠ r) := by by_cases h : s = r <;> simp [h]
    simp [execOp, ha.ev hx, ha.ev hy, eqGuard, binOp, Op.stringOp, bytes_beq]
theorem opv_addS (hx : ev E x = some (.string s)) (hy : ev E y = some (.string r)) (h : s.size + r.size ≤ 9223372036854775807) : OpV prog σ n E P ⟨d, .binOp .add t x y t', ty, pos, aft, g⟩ (.string (s ++ r)) :=
  fun _ _ ha _ => by
    have : ¬ ((s.size : Int) + (r.size : Int) > IntKind.i64.max) := by
      have : IntKind.i64.max = 9223372036854775807 := by decide
      omega
    simp only [execOp, ha.ev hx, ha.ev hy]
    rw [show eqGuard .add t x y (.string s) (.string r) = pure () from rfl, show binOp .add t (.string s) (.string r) = Op.stringOp .add s r from rfl]
    have e : Op.stringOp .add s r = (if ((s.size + r.size : Nat) : Int) > IntKind.i64.max then unsupported (.resourceLimit "string concatenation: a sum of the lengths that is no int") else pure (.string (s ++ r))) := rfl
    rw [e, if_neg (by rw [Int.natCast_add]; exact this)]
    rfl
theorem equal_ptr {w : World} {p : Option Addr} [PtrT prog t] : (Op.equal t (.pointer p) (.pointer none)).run prog w = .ok p.isNone w := by
  obtain ⟨e, he⟩ := PtrT.spec (prog := prog) t
  show (Op.equalIn (9999 + 1) t (.pointer p) (.pointer none)).run prog w = _
  generalize 9999 = dep
  unfold Op.equalIn
  rw [Sem.run_bind, run_und' he, Result.andThen_ok]
  cases p <;> rfl
theorem opv_eqlNil {p : Option Addr} [PtrT prog t] (hx : ev E x = some (.pointer p)) (hy : ev E y = some (.pointer none)) : OpV prog σ n E P ⟨d, .binOp .eql t x y t', ty, pos, aft, g⟩ (.bool p.isNone) :=
  fun _ w ha _ => by
    simp only [execOp, ha.ev hx, ha.ev hy]
    rw [show eqGuard .eql t x y (.pointer p) (.pointer none) = pure () from rfl, show binOp .eql t (.pointer p) (.pointer none) = (do pure (.bool (← Op.equal t (.pointer p) (.pointer none)))) from by cases p <;> rfl]
    simp [equal_ptr]
theorem opv_neqNil {p : Option Addr} [PtrT prog t] (hx : ev E x = some (.pointer p)) (hy : ev E y = some (.pointer none)) : OpV prog σ n E P ⟨d, .binOp .neq t x y t', ty, pos, aft, g⟩ (.bool p.isSome) :=
  fun _ w ha _ => by
    simp only [execOp, ha.ev hx, ha.ev hy]
    rw [show eqGuard .neq t x y (.pointer p) (.pointer none) = pure () from rfl, show binOp .neq t (.pointer p) (.pointer none) = (do pure (.bool (!(← Op.equal t (.pointer p) (.pointer none))))) from by cases p <;> rfl]
    simp [equal_ptr]
class BoolT (prog : Program) (t : TypeId) : Prop where
  b : undB prog t (fun | .bool => true | _ => false) = true
theorem equal_bool {w : World} {b c : Bool} [h : BoolT prog t] : (Op.equal t (.bool b) (.bool c)).run prog w = .ok (b == c) w := by
  obtain ⟨dd, hd, h1⟩ := undB_spec h.b
  split at h1
  · show (Op.equalIn (9999 + 1) t (.bool b) (.bool c)).run prog w = _
    generalize 9999 = dep
    unfold Op.equalIn
    rw [Sem.run_bind, run_und' hd, Result.andThen_ok]
    rfl
  · cases h1
theorem opv_neqB {b c : Bool} [BoolT prog t] (hx : ev E x = some (.bool b)) (hy : ev E y = some (.bool c)) : OpV prog σ n E P ⟨d, .binOp .neq t x y t', ty, pos, aft, g⟩ (.bool (b != c)) := fun _ w ha _ => by
  simp only [execOp, ha.ev hx, ha.ev hy]
  rw [show eqGuard .neq t x y (.bool b) (.bool c) = pure () from rfl, show binOp .neq t (.bool b) (.bool c) = (do pure (.bool (!(← Op.equal t (.bool b) (.bool c))))) from rfl]
  simp only [Sem.run_bind, Sem.run_pure, equal_bool, Result.andThen_ok]
  cases b <;> cases c <;> rfl
theorem opv_not {c : Bool} (hx : ev E x = some (.bool c)) : OpV prog σ n E P ⟨d, .unOp .not t x, ty, pos, aft, g⟩ (.bool (!c)) :=
  fun _ _ ha _ => by simp [execOp, ha.ev hx, Op.unary]
theorem opv_notD {p : Prop} [Decidable p] (hx : ev E x = some (.bool (decide p))) : OpV prog σ n E P ⟨d, .unOp .not t x, ty, pos, aft, g⟩ (.bool (decide (¬ p))) :=
  fun _ _ ha _ => by
    have : (!decide p) = decide (¬ p) := by by_cases h : p <;> simp [h]
    simp [execOp, ha.ev hx, Op.unary]
theorem opv_neg (hx : ev E x = some (.int k a)) : OpV prog σ n E P ⟨d, .unOp .neg t x, ty, pos, aft, g⟩ (.int k (k.wrap (0 - a))) :=
  fun _ _ ha _ => by simp [execOp, ha.ev hx, Op.unary, Op.intArith]
theorem opv_compl (hx : ev E x = some (.int k a)) : OpV prog σ n E P ⟨d, .unOp .xor t x, ty, pos, aft, g⟩ (.int k (k.wrap (BitVec.ofInt k.bits (if k.signed then -1 else k.max) ^^^ BitVec.ofInt k.bits a).toNat)) :=
  fun _ _ ha _ => by simp [execOp, ha.ev hx, Op.unary, Op.intBits]
theorem opv_nilCheck {p : Addr} (hx : ev E x = some (.pointer (some p))) : OpV prog σ n E P ⟨d, .nilCheck x, ty, pos, aft, g⟩ (.pointer (some p)) :=
  fun _ _ ha _ => by simp [execOp, ha.ev hx]
theorem opv_extract {vs : Array Value} {i : Nat} (hx : ev E x = some (.tuple vs)) (hi : vs[i]? = some v) : OpV prog σ n E P ⟨d, .extract x i, ty, pos, aft, g⟩ v :=
  fun _ _ ha _ => by simp [execOp, ha.ev hx, Instr.extract, hi]
theorem opv_convert {src dst : TypeId} {k' : IntKind} [IntT prog src k] [IntT prog dst k'] (hx : ev E x = some (.int k a)) : OpV prog σ n E P ⟨d, .convert src dst x, ty, pos, aft, g⟩ (.int k' (k'.wrap a)) :=
  fun _ _ ha _ => by simp [execOp, ha.ev hx, convert, run_und' (IntT.spec (prog := prog) src k), run_und' (IntT.spec (prog := prog) dst k'), Conv.intToInt]
theorem opv_makeFunc {fn : Fn} {first captured : Array Operand} {fs cs : List Value} (hf : evl E first.toList = some fs) (hc : evl E captured.toList = some cs) :
    OpV prog σ n E P ⟨d, .makeFunc fn first captured, ty, pos, aft, g⟩ (.func fn fs.toArray cs.toArray) := fun ac _ ha _ => by
  have h1 : first.map ac.eval = fs.toArray := by rw [← ha.evl hf]; exact Array.toList_inj.1 (by rw [Array.toList_map])
  have h2 : captured.map ac.eval = cs.toArray := by rw [← ha.evl hc]; exact Array.toList_inj.1 (by rw [Array.toList_map])
  simp [execOp, Instr.makeFunc, h1, h2]
theorem opv_fieldAddr {b o f off m : Nat} [Fld prog t f off m] (hx : ev E x = some (.pointer (some (ad b o)))) : OpV prog σ n E P ⟨d, .fieldAddr t x f, ty, pos, aft, g⟩ (.pointer (some (ad b (o + off)))) :=
  fun _ w ha _ => by
    obtain ⟨fs, fl, i, h1, h2, h3, h4, h5, h6⟩ := Fld.spec (prog := prog) t f off m
    have h7 : ¬ i.size = 0 := by omega
    have : (fieldPlace (ad b o) fl).run prog w = .ok (ad b (o + off)) w := by
      unfold fieldPlace
      simp only [Sem.run_bind, run_sizeOf' h4, Result.andThen_ok, h7, if_false, Sem.run_pure, ad_add, h3]
    simp only [execOp, ha.ev hx, Instr.fieldAt, Sem.run_bind, run_und' h1, Result.andThen_ok, h2, Instr.sureAddr, Sem.run_pure, this]
theorem opv_fieldAddr0 {b f off m : Nat} [Fld prog t f off m] (hx : ev E x = some (.pointer (some (ad b 0)))) : OpV prog σ n E P ⟨d, .fieldAddr t x f, ty, pos, aft, g⟩ (.pointer (some (ad b off))) := by
  have := opv_fieldAddr (prog := prog) (σ := σ) (n := n) (P := P) (d := d) (ty := ty) (pos := pos) (aft := aft) (g := g) (t := t) (f := f) (off := off) (m := m) hx
  rwa [Nat.zero_add] at this
theorem opv_indexAddr {b o len cap e m : Nat} [Slc prog t e m] (hx : ev E x = some (.slice (some (ad b o)) len cap)) (hy : ev E y = some (.int k a)) (h : 0 ≤ a ∧ a < len) :
    OpV prog σ n E P ⟨d, .indexAddr t x y, ty, pos, aft, g⟩ (.pointer (some (ad b (o + a.toNat * m)))) := fun _ w ha _ => by
  obtain ⟨h1, i, h2, h3⟩ := Slc.spec (prog := prog) t e m
  simp only [execOp, ha.ev hx, ha.ev hy, Instr.indexAt, Sem.run_bind, asIntOf, Sem.run_pure, run_und' h1, Result.andThen_ok, Sem.run_ite]
  rw [if_pos h]
  simp only [run_sizeOf' h2, Result.andThen_ok, ad_add, h3]
theorem opv_indexAddrA {b o len e m : Nat} [Arr prog t len e m] (hx : ev E x = some (.pointer (some (ad b o)))) (hy : ev E y = some (.int k a)) (h : 0 ≤ a ∧ a < len) :
    OpV prog σ n E P ⟨d, .indexAddr t x y, ty, pos, aft, g⟩ (.pointer (some (ad b (o + a.toNat * m)))) := fun _ w ha _ => by
  obtain ⟨h1, i, h2, h3⟩ := Arr.spec (prog := prog) t len e m
  simp only [execOp, ha.ev hx, ha.ev hy, Instr.indexAt, Sem.run_bind, asIntOf, Sem.run_pure, run_und' h1, Result.andThen_ok, Sem.run_ite, Instr.sureAddr]
  rw [if_pos h]
  simp only [run_sizeOf' h2, Result.andThen_ok, ad_add, h3]
theorem bytes_getElem? (s : ByteArray) (i : Nat) (h : i < s.size) : s[i]? = some (s.data.toList.getD i 0) := by
  have h' : i < s.data.toList.length := by rw [Array.length_toList]; exact h
  rw [getElem?_pos s i h, List.getD_eq_getElem?_getD, List.getElem?_eq_getElem h', Option.getD_some]
  rfl
/-- Byte i of a string. -/
def byt (s : ByteArray) (i : Nat) : Int := (s.data.toList.getD i 0).toNat
theorem byt_lt (s : ByteArray) (i : Nat) : byt s i < 256 := by unfold byt; have := (s.data.toList.getD i 0).toNat_lt; omega
theorem byt_ge (s : ByteArray) (i : Nat) : 0 ≤ byt s i := by unfold byt; omega
theorem opv_indexS [Str prog t] (hx : ev E x = some (.string s)) (hy : ev E y = some (.int k a)) (h : 0 ≤ a ∧ a < s.size) :
    OpV prog σ n E P ⟨d, .index t x y, ty, pos, aft, g⟩ (.int .u8 (byt s a.toNat)) := fun _ w ha _ => by
  have hlt : a.toNat < s.size := by omega
  simp only [execOp, ha.ev hx, ha.ev hy, Instr.index, Sem.run_bind, asIntOf, Sem.run_pure, run_und' (Str.spec (prog := prog) t), Result.andThen_ok]
  rw [if_pos h.1, bytes_getElem? s _ hlt]
  rfl
theorem opv_lenS [Str prog t] (hx : ev E x = some (.string s)) : OpV prog σ n E P ⟨d, .call ⟨.builtin .len, #[x], #[t]⟩, ty, pos, aft, g⟩ (.int .i64 s.size) :=
  fun _ w ha _ => by
    simp only [execOp, resolve, List.map_toArray, List.map_cons, List.map_nil, ha.ev hx, Sem.run_bind, Sem.run_pure, Result.andThen_ok, invoke, builtin, Builtin.len_]
    simp [run_und' (Str.spec (prog := prog) t), goInt]
theorem opv_lenL {e m len cap : Nat} {A : Option Addr} [Slc prog t e m] (hx : ev E x = some (.slice A len cap)) : OpV prog σ n E P ⟨d, .call ⟨.builtin .len, #[x], #[t]⟩, ty, pos, aft, g⟩ (.int .i64 len) :=
  fun _ w ha _ => by
    obtain ⟨h1, i, h2, h3⟩ := Slc.spec (prog := prog) t e m
    simp only [execOp, resolve, List.map_toArray, List.map_cons, List.map_nil, ha.ev hx, Sem.run_bind, Sem.run_pure, Result.andThen_ok, invoke, builtin, Builtin.len_]
    simp [run_und' h1, goInt]
theorem opv_max (hx : ev E x = some (.int k a)) (hy : ev E y = some (.int k b)) : OpV prog σ n E P ⟨d, .call ⟨.builtin .max, #[x, y], #[t, t']⟩, ty, pos, aft, g⟩ (.int k (if b > a then b else a)) :=
  fun _ w ha _ => by
    simp only [execOp, resolve, List.map_toArray, List.map_cons, List.map_nil, ha.ev hx, ha.ev hy, Sem.run_bind, Sem.run_pure, Result.andThen_ok, invoke, builtin, Builtin.max_]
    simp [Builtin.max2]
theorem opv_min (hx : ev E x = some (.int k a)) (hy : ev E y = some (.int k b)) : OpV prog σ n E P ⟨d, .call ⟨.builtin .min, #[x, y], #[t, t']⟩, ty, pos, aft, g⟩ (.int k (if b < a then b else a)) :=
  fun _ w ha _ => by
    simp only [execOp, resolve, List.map_toArray, List.map_cons, List.map_nil, ha.ev hx, ha.ev hy, Sem.run_bind, Sem.run_pure, Result.andThen_ok, invoke, builtin, Builtin.min_]
    simp [Builtin.min2]
/-! ### Loads -/
/-- In every world of P cell 'o' of block 'b' reads as v. -/
def Rd (P : HProp) (b o : Nat) (v : Value) : Prop := ∀ σ w, Sat σ w P → w.cell? (ad b o) = some v
theorem opv_load {b o : Nat} [One prog t] (hx : ev E x = some (.pointer (some (ad b o)))) (hr : Rd P b o v) : OpV prog σ n E P ⟨d, .load t x, ty, pos, aft, g⟩ v :=
  fun _ w ha hs => by
    obtain ⟨dd, i, h1, h2, h3, h4⟩ := One.spec (prog := prog) t
    simp only [execOp, ha.ev hx, Instr.loadAt, Instr.sureAddr, Sem.run_bind, Sem.run_pure, Result.andThen_ok, loadVar, run_isAgg' h1, h2, Bool.false_eq_true, if_false, run_load, hr σ w hs]
theorem opv_loadN {b o m : Nat} {vs : List Value} [Agg prog t m] (hx : ev E x = some (.pointer (some (ad b o)))) (hl : vs.length = m) (hr : ∀ j u, vs[j]? = some u → Rd P b (o + j) u) :
    OpV prog σ n E P ⟨d, .load t x, ty, pos, aft, g⟩ (.agg vs.toArray) :=
  fun _ w ha hs => by
    obtain ⟨dd, i, h1, h2, h3, h4⟩ := Agg.spec (prog := prog) t m
    have hc := run_loadCells_list (P := prog) (w := w) (ad b o) vs (fun j u hj => by rw [ad_add]; exact hr j u hj σ w hs)
    simp only [execOp, ha.ev hx, Instr.loadAt, Instr.sureAddr, Sem.run_bind, Sem.run_pure, Result.andThen_ok, loadVar, run_isAgg' h1, h2, if_true, run_sizeOf' h3, h4]
    rw [← hl, hc]
    rfl
end
end Go.SLA
namespace Go.SLA
/-- Block b holds these cells. -/
def cel (b : Nat) (l : List Value) (t : TypeId) : HProp := blk b (.cells l.toArray t (0, 0))
/-! ### Finding a part of an assertion -/
/-- P is the block b's cells, and R. -/
class Look (P : HProp) (b : Nat) (l : outParam (List Value)) (t : outParam TypeId) (R : outParam HProp) : Prop where
  eq : P = (sep (cel b l t) (R))
instance (priority := 100) {A P R : HProp} {b : Nat} {l : List Value} {t : TypeId} [h : Look P b l t R] : Look (sep (A) (P)) b l t (sep (A) (R)) :=
  ⟨by rw [h.eq, sep_left_comm]⟩
instance (priority := 150) {A B P R : HProp} {b : Nat} {l : List Value} {t : TypeId} [h : Look (sep (A) (sep (B) (P))) b l t R] : Look (sep ((sep (A) (B))) (P)) b l t R := ⟨by rw [sep_assoc]; exact h.eq⟩
instance (priority := 200) {R : HProp} {b : Nat} {l : List Value} {t : TypeId} : Look (sep (cel b l t) (R)) b l t R := ⟨rfl⟩
instance (priority := 50) {b : Nat} {l : List Value} {t : TypeId} : Look (cel b l t) b l t emp := ⟨(sep_emp _).symm⟩
/-- P is A, and R. -/
class Take (P A : HProp) (R : outParam HProp) : Prop where
  eq : P = (sep (A) (R))
instance (priority := 100) {B P A R : HProp} [h : Take P A R] : Take (sep (B) (P)) A (sep (B) (R)) := ⟨by rw [h.eq, sep_left_comm]⟩
instance (priority := 150) {A B P C R : HProp} [h : Take (sep (A) (sep (B) (P))) C R] : Take (sep ((sep (A) (B))) (P)) C R := ⟨by rw [sep_assoc]; exact h.eq⟩
instance (priority := 200) {A R : HProp} : Take (sep (A) (R)) A R := ⟨rfl⟩
instance (priority := 300) {P A B R R' : HProp} [h : Take P A R] [k : Take R B R'] : Take P (sep (A) (B)) R' := ⟨by rw [h.eq, k.eq, sep_assoc]⟩
instance (priority := 50) {P : HProp} : Take P P emp := ⟨(sep_emp P).symm⟩
instance (priority := 400) {P : HProp} : Take P emp P := ⟨(emp_sep P).symm⟩
theorem Ent.take {P Q R : HProp} [h : Take P Q R] : Ent P Q := by rw [h.eq]; exact Ent.left
theorem Ent.takes {P Q R : HProp} [h : Take P Q R] : Ent P (sep (Q) (R)) := Ent.of h.eq
/-- m cells of l from o on. -/
class CutL (l : List Value) (o m : Nat) (vs : outParam (List Value)) : Prop where
  eq : (l.drop o).take m = vs
  le : vs.length = m
instance {l : List Value} : CutL l 0 0 [] := ⟨by simp, rfl⟩
instance {l vs : List Value} {x : Value} {m : Nat} [h : CutL l 0 m vs] : CutL (x :: l) 0 (m + 1) (x :: vs) := ⟨by have := h.eq; simp at this; simp [this], by simp [h.le]⟩
instance {l vs : List Value} {x : Value} {o m : Nat} [h : CutL l o m vs] : CutL (x :: l) (o + 1) m vs := ⟨by simpa using h.eq, h.le⟩
variable {prog : Program} {σ : World} {n : Nat} {Q : Exit → Act → World → Prop} {E E' : Env} {P P' R F : HProp} {ops : Array Oper} {rest : List Oper}
theorem cell_of_cel {w : World} {b o : Nat} {l : List Value} {t : TypeId} (h : Sat σ w (sep (cel b l t) (R))) : w.cell? (ad b o) = l[o]? := by
  have := h.blk
  simp [World.cell?, ad, this]
theorem Rd.look {b o : Nat} {l : List Value} {t : TypeId} {v : Value} [h : Look P b l t R] (hv : l[o]? = some v) : Rd P b o v := fun σ w hs => by
  rw [h.eq] at hs
  rw [cell_of_cel hs, hv]
/-! ### One operation with a trace -/
section
variable (prog) (σ) (n)
/-- From P the operation ends with φ x, E' x, P' x for some x. -/
def OpX (E : Env) (P : HProp) (o : Oper) {X : Type} (φ : X → Prop) (E' : X → Env) (P' : X → HProp) : Prop :=
  ∀ a w, Agree n E a → Sat σ w P → ∀ (Kn : Act → World → Prop) (Q : Exit → Act → World → Prop), (∀ x a' w', φ x → Agree n (E' x) a' → Sat σ w' (P' x) → Kn a' w') → o.wp prog a w Kn Q
end
theorem OpX.of_run {o : Oper} {d : Nat} {X : Type} {φ : X → Prop} {val : X → Value} {P' : X → HProp} (ho : o.dst = some d) (hd : Nat.blt d n = true)
    (h : ∀ a w, Agree n E a → Sat σ w P → ∃ x w', φ x ∧ (execOp a.eval o).run prog w = .ok (.value (val x)) w' ∧ Sat σ w' (P' x)) : OpX prog σ n E P o φ (fun x => (d, val x) :: E) P' := by
  intro a w ha hs Kn Q hk
  obtain ⟨x, w', hx, hr, hs'⟩ := h a w ha hs
  unfold Oper.wp
  rw [hr, Oper.upon_value]
  have hd' : d < n := Nat.le_of_ble_eq_true hd
  exact hk x _ _ hx (by rw [ho]; exact ha.put hd' _) hs'
theorem OpX.of_skip {o : Oper} {X : Type} {φ : X → Prop} {P' : X → HProp} (ho : o.dst = none)
    (h : ∀ a w, Agree n E a → Sat σ w P → ∃ x w', φ x ∧ (execOp a.eval o).run prog w = .ok .skip w' ∧ Sat σ w' (P' x)) : OpX prog σ n E P o φ (fun _ => E) P' := by
  intro a w ha hs Kn Q hk
  obtain ⟨x, w', hx, hr, hs'⟩ := h a w ha hs
  unfold Oper.wp
  rw [hr, Oper.upon_skip]
  exact hk x _ _ hx (by rw [ho]; exact ha) hs'
theorem OpV.opx {o : Oper} {d : Nat} {v : Value} (h : OpV prog σ n E P o v) (ho : o.dst = some d) (hd : Nat.blt d n = true) : OpX prog σ n E P o (fun _ : Unit => True) (fun _ => (d, v) :: E) (fun _ => P) :=
  OpX.of_run ho hd fun a w ha hs => ⟨(), w, trivial, h a w ha hs, hs⟩
/-! ### In the order of the text -/
theorem L_x {o : Oper} (hg : o.guard = none) {X : Type} {φ : X → Prop} {E' : X → Env} {P' : X → HProp} (h : OpX prog σ n E P o φ E' P') (k : ∀ x, φ x → L prog σ n ops rest Q (E' x) (P' x)) : L prog σ n ops (o :: rest) Q E P :=
  fun a w ha hs => wpList_plain hg fun _ hK => h a w ha hs _ _ fun x a' w' hx ha' hs' => hK _ _ (k x hx a' w' ha' hs')
theorem L_v {d : Nat} {op : Op} {ty : TypeId} {pos : String} {aft : Array Edge} {v : Value} (h : OpV prog σ n E P ⟨some d, op, ty, pos, aft, none⟩ v) (hd : Nat.blt d n = true) (k : L prog σ n ops rest Q ((d, v) :: E) P) :
    L prog σ n ops (⟨some d, op, ty, pos, aft, none⟩ :: rest) Q E P := L_x rfl (h.opx rfl hd) fun _ _ => k
theorem yields {a : Act} (ha : Agree n E a) {j t : Nat} {b : Bool} (hj : (ops[j]?).bind (·.dst) = some t) (hb : Env.get E t = some (.bool b)) : yielded ops a.tmps j = some b := by
  unfold yielded
  rw [hj, Option.bind_some, ha.slot t _ hb]
theorem L_gskip {d : Option Nat} {op : Op} {ty : TypeId} {pos : String} {aft : Array Edge} {j t : Nat} {want b : Bool} (hj : (ops[j]?).bind (·.dst) = some t) (hb : Env.get E t = some (.bool b)) (hne : (b == want) = false)
    (k : L prog σ n ops rest Q E P) (hd : ∀ i, d = some i → Env.get E i = none) : L prog σ n ops (⟨d, op, ty, pos, aft, some (j, want)⟩ :: rest) Q E P := fun a w ha hs => by
  unfold wpList
  have : Region.wanted ⟨d, op, ty, pos, aft, some (j, want)⟩ (yielded ops a.tmps) = false := by
    simp only [Region.wanted, yields ha hj hb]
    simpa using hne
  rw [this]
  simp only [Bool.false_eq_true, if_false]
  refine k _ w ?_ hs
  cases d with
  | none => exact ha
  | some d =>
    refine ⟨ha.defers, by simp [Act.put, ha.size], fun i u hi => ?_⟩
    simp only [Act.put]
    by_cases e : d = i
    · subst e; rw [hd d rfl] at hi; cases hi
    · rw [Array.getElem?_setIfInBounds_ne e]; exact ha.slot i u hi
theorem L_gon {d : Option Nat} {op : Op} {ty : TypeId} {pos : String} {aft : Array Edge} {j t : Nat} {want b : Bool} (hj : (ops[j]?).bind (·.dst) = some t) (hb : Env.get E t = some (.bool b)) (hne : (b == want) = true)
    (k : L prog σ n ops (⟨d, op, ty, pos, aft, none⟩ :: rest) Q E P) : L prog σ n ops (⟨d, op, ty, pos, aft, some (j, want)⟩ :: rest) Q E P := fun a w ha hs => by
  have h := k a w ha hs
  unfold wpList at h ⊢
  have h1 : Region.wanted ⟨d, op, ty, pos, aft, some (j, want)⟩ (yielded ops a.tmps) = true := by
    simp only [Region.wanted, yields ha hj hb]
    simpa using hne
  have h2 : Region.wanted ⟨d, op, ty, pos, aft, none⟩ (yielded ops a.tmps) = true := rfl
  rw [h1]
  rw [h2] at h
  exact h
/-- A guard that is asked of 'decide p': on, or passed over. -/
theorem L_gt {d : Option Nat} {op : Op} {ty : TypeId} {pos : String} {aft : Array Edge} {j t : Nat} {p : Prop} [Decidable p] (hj : (ops[j]?).bind (·.dst) = some t) (hb : Env.get E t = some (.bool (decide p)))
    (ht : p → L prog σ n ops (⟨d, op, ty, pos, aft, none⟩ :: rest) Q E P) (hf : ¬ p → L prog σ n ops rest Q E P) (hd : ∀ i, d = some i → Env.get E i = none) : L prog σ n ops (⟨d, op, ty, pos, aft, some (j, true)⟩ :: rest) Q E P := by
  by_cases h : p
  · exact L_gon hj hb (by simp [h]) (ht h)
  · exact L_gskip hj hb (by simp [h]) (hf h) hd
theorem L_gf {d : Option Nat} {op : Op} {ty : TypeId} {pos : String} {aft : Array Edge} {j t : Nat} {p : Prop} [Decidable p] (hj : (ops[j]?).bind (·.dst) = some t) (hb : Env.get E t = some (.bool (decide p)))
    (ht : ¬ p → L prog σ n ops (⟨d, op, ty, pos, aft, none⟩ :: rest) Q E P) (hf : p → L prog σ n ops rest Q E P) (hd : ∀ i, d = some i → Env.get E i = none) : L prog σ n ops (⟨d, op, ty, pos, aft, some (j, false)⟩ :: rest) Q E P := by
  by_cases h : p
  · exact L_gskip hj hb (by simp [h]) (hf h) hd
  · exact L_gon hj hb (by simp [h]) (ht h)
theorem L_gt_on {d : Option Nat} {op : Op} {ty : TypeId} {pos : String} {aft : Array Edge} {j t : Nat} {p : Prop} [Decidable p] (h : p) (hj : (ops[j]?).bind (·.dst) = some t) (hb : Env.get E t = some (.bool (decide p)))
    (k : L prog σ n ops (⟨d, op, ty, pos, aft, none⟩ :: rest) Q E P) : L prog σ n ops (⟨d, op, ty, pos, aft, some (j, true)⟩ :: rest) Q E P := L_gon hj hb (by simp [h]) k
theorem L_gt_off {d : Option Nat} {op : Op} {ty : TypeId} {pos : String} {aft : Array Edge} {j t : Nat} {p : Prop} [Decidable p] (h : ¬ p) (hj : (ops[j]?).bind (·.dst) = some t) (hb : Env.get E t = some (.bool (decide p)))
    (k : L prog σ n ops rest Q E P) (hd : ∀ i, d = some i → Env.get E i = none) : L prog σ n ops (⟨d, op, ty, pos, aft, some (j, true)⟩ :: rest) Q E P := L_gskip hj hb (by simp [h]) k hd
theorem L_gf_on {d : Option Nat} {op : Op} {ty : TypeId} {pos : String} {aft : Array Edge} {j t : Nat} {p : Prop} [Decidable p] (h : ¬ p) (hj : (ops[j]?).bind (·.dst) = some t) (hb : Env.get E t = some (.bool (decide p)))
    (k : L prog σ n ops (⟨d, op, ty, pos, aft, none⟩ :: rest) Q E P) : L prog σ n ops (⟨d, op, ty, pos, aft, some (j, false)⟩ :: rest) Q E P := L_gon hj hb (by simp [h]) k
theorem L_gf_off {d : Option Nat} {op : Op} {ty : TypeId} {pos : String} {aft : Array Edge} {j t : Nat} {p : Prop} [Decidable p] (h : p) (hj : (ops[j]?).bind (·.dst) = some t) (hb : Env.get E t = some (.bool (decide p)))
    (k : L prog σ n ops rest Q E P) (hd : ∀ i, d = some i → Env.get E i = none) : L prog σ n ops (⟨d, op, ty, pos, aft, some (j, false)⟩ :: rest) Q E P := L_gskip hj hb (by simp [h]) k hd
/-! ### Quiet, in any order -/
section
variable (prog) (σ) (n)
def QL (ops : Array Oper) (rest : List Oper) (Qa : Act → Prop) (E : Env) (P : HProp) : Prop := ∀ a, Agree n E a → wpQuiet prog ops (fun w => Sat σ w P) Qa rest a
end
variable {Qa : Act → Prop}
theorem J_quiet {id : Nat} {l : List Oper} (hm : prog.follows .mixedOrders = true) (hB : Region.lexB .any l.toArray = true)
    (h : QL prog σ n l.toArray l (fun a' => ∀ w', Sat σ w' P → Q .normal a' w') E P) : J prog σ n (.region id l.toArray true) Q E P := fun a w ha hs =>
  wp_region_quiet (C := fun w => Sat σ w P) hm hB (hs.drawn _) (by simpa using h a ha)
theorem QL_nil (h : K σ n Q .normal E P) : QL prog σ n ops [] (fun a' => ∀ w', Sat σ w' P → Q .normal a' w') E P := fun a ha w' hs => h a w' ha hs
theorem Q_v {d : Nat} {op : Op} {ty : TypeId} {pos : String} {aft : Array Edge} {v : Value} (h : OpV prog σ n E P ⟨some d, op, ty, pos, aft, none⟩ v) (hd : Nat.blt d n = true) (k : QL prog σ n ops rest Qa ((d, v) :: E) P) :
    QL prog σ n ops (⟨some d, op, ty, pos, aft, none⟩ :: rest) Qa E P := fun a ha => by
  unfold wpQuiet
  rw [if_pos (show Region.wanted ⟨some d, op, ty, pos, aft, none⟩ (yielded ops a.tmps) = true from rfl)]
  refine ⟨v, fun w hw => ?_, k _ (ha.put (Nat.le_of_ble_eq_true hd) v)⟩
  unfold Oper.quietAt
  rw [h a w ha hw]
  exact ⟨rfl, rfl⟩
theorem Q_gskip {d : Option Nat} {op : Op} {ty : TypeId} {pos : String} {aft : Array Edge} {j t : Nat} {want b : Bool} (hj : (ops[j]?).bind (·.dst) = some t) (hb : Env.get E t = some (.bool b)) (hne : (b == want) = false)
    (k : QL prog σ n ops rest Qa E P) (hd : ∀ i, d = some i → Env.get E i = none) : QL prog σ n ops (⟨d, op, ty, pos, aft, some (j, want)⟩ :: rest) Qa E P := fun a ha => by
  unfold wpQuiet
  have : Region.wanted ⟨d, op, ty, pos, aft, some (j, want)⟩ (yielded ops a.tmps) = false := by
    simp only [Region.wanted, yields ha hj hb]
    simpa using hne
  rw [this]
  simp only [Bool.false_eq_true, if_false]
  refine k _ ?_
  cases d with
  | none => exact ha
  | some d =>
    refine ⟨ha.defers, by simp [Act.put, ha.size], fun i u hi => ?_⟩
    simp only [Act.put]
    by_cases e : d = i
    · subst e; rw [hd d rfl] at hi; cases hi
    · rw [Array.getElem?_setIfInBounds_ne e]; exact ha.slot i u hi
theorem Q_gon {d : Option Nat} {op : Op} {ty : TypeId} {pos : String} {aft : Array Edge} {j t : Nat} {want b : Bool} (hj : (ops[j]?).bind (·.dst) = some t) (hb : Env.get E t = some (.bool b)) (hne : (b == want) = true)
    (k : QL prog σ n ops (⟨d, op, ty, pos, aft, none⟩ :: rest) Qa E P) : QL prog σ n ops (⟨d, op, ty, pos, aft, some (j, want)⟩ :: rest) Qa E P := fun a ha => by
  have h := k a ha
  unfold wpQuiet at h ⊢
  have h1 : Region.wanted ⟨d, op, ty, pos, aft, some (j, want)⟩ (yielded ops a.tmps) = true := by
    simp only [Region.wanted, yields ha hj hb]
    simpa using hne
  have h2 : Region.wanted ⟨d, op, ty, pos, aft, none⟩ (yielded ops a.tmps) = true := rfl
  rw [h1]
  rw [h2] at h
  exact h
theorem Q_gt {d : Option Nat} {op : Op} {ty : TypeId} {pos : String} {aft : Array Edge} {j t : Nat} {p : Prop} [Decidable p] (hj : (ops[j]?).bind (·.dst) = some t) (hb : Env.get E t = some (.bool (decide p)))
    (ht : p → QL prog σ n ops (⟨d, op, ty, pos, aft, none⟩ :: rest) Qa E P) (hf : ¬ p → QL prog σ n ops rest Qa E P) (hd : ∀ i, d = some i → Env.get E i = none) : QL prog σ n ops (⟨d, op, ty, pos, aft, some (j, true)⟩ :: rest) Qa E P := by
  by_cases h : p
  · exact Q_gon hj hb (by simp [h]) (ht h)
  · exact Q_gskip hj hb (by simp [h]) (hf h) hd
theorem Q_gt_on {d : Option Nat} {op : Op} {ty : TypeId} {pos : String} {aft : Array Edge} {j t : Nat} {p : Prop} [Decidable p] (h : p) (hj : (ops[j]?).bind (·.dst) = some t) (hb : Env.get E t = some (.bool (decide p)))
    (k : QL prog σ n ops (⟨d, op, ty, pos, aft, none⟩ :: rest) Qa E P) : QL prog σ n ops (⟨d, op, ty, pos, aft, some (j, true)⟩ :: rest) Qa E P := Q_gon hj hb (by simp [h]) k
theorem Q_gt_off {d : Option Nat} {op : Op} {ty : TypeId} {pos : String} {aft : Array Edge} {j t : Nat} {p : Prop} [Decidable p] (h : ¬ p) (hj : (ops[j]?).bind (·.dst) = some t) (hb : Env.get E t = some (.bool (decide p)))
    (k : QL prog σ n ops rest Qa E P) (hd : ∀ i, d = some i → Env.get E i = none) : QL prog σ n ops (⟨d, op, ty, pos, aft, some (j, true)⟩ :: rest) Qa E P := Q_gskip hj hb (by simp [h]) k hd
/-! ### Step by step, in any order: S is what every operation keeps till one of B has come up -/
def clearB (B : List Nat) (listed : Array Bool) : Bool := B.all fun b => !listed.getD b false
theorem clearB_set {B : List Nat} {listed : Array Bool} {i : Nat} (hi : i ∉ B) : clearB B (listed.setIfInBounds i true) = clearB B listed := by
  unfold clearB
  induction B with
  | nil => rfl
  | cons b B ih =>
    simp only [List.mem_cons, not_or] at hi
    rw [List.all_cons, List.all_cons, ih hi.2, getD_set_ne false hi.1]
def wpAnyB (P : Program) (ops : Array Oper) (Q : Exit → Act → World → Prop) (S0 S : World → Prop) (B : List Nat) : Nat → Array Bool → Act → World → Prop
  | 0, listed, a, w => Region.ready .any ops listed = [] ∧ Q .normal a w
  | fuel + 1, listed, a, w =>
    (Region.ready .any ops listed = [] → Q .normal a w) ∧
    ∀ i ∈ Region.ready .any ops listed, wpOp P ops Q i (fun a' w' => (S0 w' ∧ (clearB B (listed.setIfInBounds i true) = true → S w')) ∧ wpAnyB P ops Q S0 S B fuel (listed.setIfInBounds i true) a' w') a w
theorem wpAny_of_B {S0 S : World → Prop} {B : List Nat} : ∀ (fuel : Nat) (listed : Array Bool) (a : Act) (w : World), wpAnyB prog ops Q S0 S B fuel listed a w → wpAny prog .any ops Q fuel listed a w
  | 0, _, _, _, h => h
  | fuel + 1, _, _, _, h => ⟨h.1, fun i hi => wpOp_mono (fun a' w' h' => wpAny_of_B fuel _ a' w' h'.2) (h.2 i hi)⟩
def waitsAll (ops : Array Oper) (B : List Nat) (i : Nat) : Bool := B.all fun b => !Nat.beq b i && match ops[b]? with
  | some o => o.after.any fun e => Region.binds .any e && e.on == i
  | none => true
theorem waitsAll_spec {B : List Nat} {i : Nat} (h : waitsAll ops B i = true) : i ∉ B ∧ ∀ b ∈ B, ∀ o, ops[b]? = some o → ∃ e ∈ o.after, Region.binds .any e = true ∧ e.on = i := by
  simp only [waitsAll, List.all_eq_true, Bool.and_eq_true, Bool.not_eq_true'] at h
  refine ⟨fun hi => ?_, fun b hb o ho => ?_⟩
  · have := (h i hi).1
    rw [Nat.beq_refl] at this
    cases this
  · have := (h b hb).2
    rw [ho] at this
    obtain ⟨e, he, hb⟩ := Array.any_eq_true'.1 this
    simp only [Bool.and_eq_true, beq_iff_eq] at hb
    exact ⟨e, he, hb.1, hb.2⟩
/-- What is asked of the operation that is taken first: pS: its value stands wherever S does; else in every world. -/
theorem wpAnyB_first {S0 S : World → Prop} {B : List Nat} {i : Nat} {oi : Oper} {v : Value} (pS : Bool) (hi : ops[i]? = some oi) (hsel : ∀ (j : Nat) (o : Oper) cs b, ops[j]? = some o → o.op ≠ .select cs b)
    (hQ : ∀ c a w, Q (.panic c) (a.put oi.dst v) w → Q (.panic c) a w) (hiB : i ∉ B) (hB : pS = true → ∀ b ∈ B, ∀ o, ops[b]? = some o → ∃ e ∈ o.after, Region.binds .any e = true ∧ e.on = i) :
    ∀ (fuel : Nat) (listed : Array Bool) (a : Act) (w : World),
      (∀ j oj, ops[j]? = some oj → j ≠ i → listed.getD j true = false → (∀ e ∈ oj.after, Region.binds .any e = true → e.on ≠ i) → oi.apart ops oj = true) →
      i ∈ Region.ready .any ops listed → YieldsIf prog ops (fun w => S0 w ∧ (pS = true → S w)) oi v a → (pS = true → clearB B listed = true) → S0 w → (clearB B listed = true → S w) →
      wpAnyB prog ops Q S0 S B fuel (listed.setIfInBounds i true) (a.put oi.dst v) w → wpAnyB prog ops Q S0 S B (fuel + 1) listed a w := by
  intro fuel
  induction fuel with
  | zero =>
    intro listed a w _ hr hy hc hS0 hS H
    refine ⟨fun h => (by rw [h] at hr; cases hr), fun j hj => ?_⟩
    by_cases hji : j = i
    · subst hji
      exact hy.wpOp hi ⟨hS0, fun h => hS (hc h)⟩ ⟨⟨hS0, fun h => hS (by rwa [clearB_set hiB] at h)⟩, H⟩
    · have := ready_mono hj hji
      rw [H.1] at this
      cases this
  | succ fuel ih =>
    intro listed a w hfree hr hy hc hS0 hS H
    refine ⟨fun h => (by rw [h] at hr; cases hr), fun j hj => ?_⟩
    by_cases hji : j = i
    · subst hji
      exact hy.wpOp hi ⟨hS0, fun h => hS (hc h)⟩ ⟨⟨hS0, fun h => hS (by rwa [clearB_set hiB] at h)⟩, H⟩
    · have h1 := H.2 j (ready_mono hj hji)
      obtain ⟨hjun, oj, hoj, hall⟩ := mem_ready.1 hj
      have hiun : ∀ e ∈ oj.after, Region.binds .any e = true → e.on ≠ i := fun e he hb heq => by
        have h1 := hall e he hb
        have h0 := (mem_ready.1 hr).1
        rw [heq] at h1
        rcases Nat.lt_or_ge i listed.size with h' | h'
        · simp [h'] at h0 h1; rw [h0] at h1; cases h1
        · simp [Array.getElem?_eq_none h'] at h1
      have hjB : pS = true → j ∉ B := fun h hjb => by
        obtain ⟨e, he, hb, hon⟩ := hB h j hjb oj hoj
        exact hiun e he hb hon
      have h2 := wpOp_putIf hoj (hfree j oj hoj hji hjun hiun) (fun cs b => hsel i oi cs b hi) (fun cs b => hsel j oj cs b hoj) hQ hy h1
      have hfree' : ∀ k ok, ops[k]? = some ok → k ≠ i → (listed.setIfInBounds j true).getD k true = false →
          (∀ e ∈ ok.after, Region.binds .any e = true → e.on ≠ i) → oi.apart ops ok = true := fun k ok hk hki hun hno => by
        refine hfree k ok hk hki ?_ hno
        by_cases hjk : j = k
        · subst hjk; exact hjun
        · rw [getD_set_ne true hjk] at hun; exact hun
      have hcl : ∀ l : Array Bool, clearB B ((l.setIfInBounds i true).setIfInBounds j true) = clearB B (l.setIfInBounds j true) := fun l => by
        rw [Array.setIfInBounds_comm _ _ (Ne.symm hji), clearB_set hiB]
      refine wpOp_mono (fun a' w' h3 => ?_) h2
      have hS' : clearB B (listed.setIfInBounds j true) = true → S w' := fun h => h3.2.1.2 (by rw [hcl]; exact h)
      refine ⟨⟨h3.2.1.1, hS'⟩, ih (listed.setIfInBounds j true) a' w' hfree' (ready_mono hr (Ne.symm hji)) h3.1 (fun h => by rw [clearB_set (hjB h)]; exact hc h) h3.2.1.1 hS' ?_⟩
      rw [Array.setIfInBounds_comm _ _ hji]
      exact h3.2.2
section
variable (prog) (σ) (n)
def Rg (ops : Array Oper) (Q : Exit → Act → World → Prop) (S0 S : HProp) (B : List Nat) (fuel : Nat) (listed : Array Bool) (E : Env) (P : HProp) : Prop :=
  ∀ a w, Agree n E a → Sat σ w P → wpAnyB prog ops Q (fun w => Sat σ w S0) (fun w => Sat σ w S) B fuel listed a w
end
variable {S0 S : HProp} {B : List Nat} {fuel : Nat} {listed : Array Bool}
theorem J_steps {id : Nat} {l : List Oper} (S0 S : HProp) (B : List Nat) (hm : prog.follows .mixedOrders = true) (h : Rg prog σ n l.toArray Q S0 S B l.length (List.replicate l.length false).toArray E P) : J prog σ n (.region id l.toArray true) Q E P :=
  fun a w ha hs => wp_region_any hm (wpAny_of_B (S0 := fun w => Sat σ w S0) (S := fun w => Sat σ w S) (B := B) _ _ _ _ (by
    have := h a _ ha (hs.drawn (w.drawn + 1))
    simpa using this))
/-- An operation whose value stands wherever S does. -/
theorem R_take (i : Nat) {d : Nat} {op : Op} {ty : TypeId} {pos : String} {aft : Array Edge} {v : Value} {R0 : HProp} [NP Q] [hS : Take P S R] [h0 : Take P S0 R0] (hi : ops[i]? = some ⟨some d, op, ty, pos, aft, none⟩) (hs : Region.noSelect ops = true) (hf : Region.free .any ops listed i = true)
    (hr : (Region.ready .any ops listed).contains i = true) (hB : waitsAll ops B i = true) (hc : clearB B listed = true) (h : OpV prog σ n E S ⟨some d, op, ty, pos, aft, none⟩ v) (hd : Nat.blt d n = true) (k : Rg prog σ n ops Q S0 S B fuel (listed.setIfInBounds i true) ((d, v) :: E) P) :
    Rg prog σ n ops Q S0 S B (fuel + 1) listed E P := fun a w ha hw => by
  have hSw : Sat σ w S := by have := hw; rw [hS.eq] at this; exact this.left
  obtain ⟨hiB, hB⟩ := waitsAll_spec hB
  refine wpAnyB_first true hi (Region.noSelect_spec hs) (fun c a w h => absurd h (NP.no c _ w)) hiB (fun _ => hB) fuel listed a w (Region.free_spec hi hf) (by simpa using hr) (.inl ⟨rfl, fun w' hw' => h a w' ha (hw'.2 rfl)⟩) (fun _ => hc) (by have := hw; rw [h0.eq] at this; exact this.left) (fun _ => hSw) ?_
  exact k _ w (ha.put (Nat.le_of_ble_eq_true hd) v) hw
/-- An operation whose value stands wherever S0 does. -/
theorem R_pure (i : Nat) {d : Nat} {op : Op} {ty : TypeId} {pos : String} {aft : Array Edge} {v : Value} {R0 : HProp} [NP Q] [h0 : Take P S0 R0] (hi : ops[i]? = some ⟨some d, op, ty, pos, aft, none⟩) (hs : Region.noSelect ops = true) (hf : Region.free .any ops listed i = true)
    (hr : (Region.ready .any ops listed).contains i = true) (hiB : B.contains i = false) (hc : clearB B listed = false ∨ ∃ R, P = (sep (S) (R))) (h : OpV prog σ n E S0 ⟨some d, op, ty, pos, aft, none⟩ v) (hd : Nat.blt d n = true) (k : Rg prog σ n ops Q S0 S B fuel (listed.setIfInBounds i true) ((d, v) :: E) P) :
    Rg prog σ n ops Q S0 S B (fuel + 1) listed E P := fun a w ha hw => by
  refine wpAnyB_first (v := v) false hi (Region.noSelect_spec hs) (fun c a w h => absurd h (NP.no c _ w)) (by simpa using hiB) (fun h => by cases h) fuel listed a w (Region.free_spec hi hf) (by simpa using hr) (.inl ⟨rfl, fun w' hw' => h a w' ha hw'.1⟩) (fun h => by cases h)
    (by have := hw; rw [h0.eq] at this; exact this.left) (fun hcl => ?_) ?_
  · rcases hc with hc | ⟨R, hR⟩
    · rw [hc] at hcl; cases hcl
    · rw [hR] at hw; exact hw.left
  · exact k _ w (ha.put (Nat.le_of_ble_eq_true hd) v) hw
theorem R_only (i : Nat) {o : Oper} {X : Type} {φ : X → Prop} {E' : X → Env} {P' : X → HProp} (hi : ops[i]? = some o) (hg : o.guard = none) (hr : Region.ready .any ops listed = [i]) (h : OpX prog σ n E P o φ E' P')
    (hS0 : ∀ x, φ x → ∃ R', P' x = (sep (S0) (R'))) (hS : clearB B (listed.setIfInBounds i true) = false ∨ ∀ x, φ x → ∃ R', P' x = (sep (S) (R'))) (k : ∀ x, φ x → Rg prog σ n ops Q S0 S B fuel (listed.setIfInBounds i true) (E' x) (P' x)) : Rg prog σ n ops Q S0 S B (fuel + 1) listed E P := fun a w ha hw => by
  refine ⟨fun h0 => absurd (hr ▸ h0) (by simp), fun j hj => ?_⟩
  rw [hr] at hj
  obtain rfl : j = i := by simpa using hj
  unfold wpOp
  rw [hi]
  simp only [Region.wanted, hg, if_true]
  refine .inl (h a w ha hw _ _ fun x a' w' hx ha' hw' => ⟨⟨by obtain ⟨R', hR⟩ := hS0 x hx; rw [hR] at hw'; exact hw'.left, fun hcl => ?_⟩, k x hx a' w' ha' hw'⟩)
  rcases hS with hS | hS
  · rw [hS] at hcl; cases hcl
  · obtain ⟨R', hR⟩ := hS x hx
    rw [hR] at hw'
    exact hw'.left
/-- Of several that may come up: each is to be shown. -/
theorem R_all (rs : List Nat) (hr : Region.ready .any ops listed = rs) (hne : rs.isEmpty = false)
    (h : ∀ i, i ∈ rs → ∃ (o : Oper) (X : Type) (φ : X → Prop) (E' : X → Env) (P' : X → HProp), ops[i]? = some o ∧ o.guard = none ∧ OpX prog σ n E P o φ E' P' ∧ ∀ x, φ x → (∃ R', P' x = (sep (S0) (R'))) ∧ (clearB B (listed.setIfInBounds i true) = false ∨ ∃ R', P' x = (sep (S) (R'))) ∧ Rg prog σ n ops Q S0 S B fuel (listed.setIfInBounds i true) (E' x) (P' x)) :
    Rg prog σ n ops Q S0 S B (fuel + 1) listed E P := fun a w ha hw => by
  refine ⟨fun h0 => absurd (hr ▸ h0) (by rintro rfl; cases hne), fun j hj => ?_⟩
  rw [hr] at hj
  obtain ⟨o, X, φ, E', P', hi, hg, hx, k⟩ := h j hj
  unfold wpOp
  rw [hi]
  simp only [Region.wanted, hg, if_true]
  refine .inl (hx a w ha hw _ _ fun x a' w' hx' ha' hw' => ?_)
  obtain ⟨⟨R0, h0⟩, hS, k⟩ := k x hx'
  refine ⟨⟨by rw [h0] at hw'; exact hw'.left, fun hcl => ?_⟩, k a' w' ha' hw'⟩
  rcases hS with hS | ⟨R', hS⟩
  · rw [hS] at hcl; cases hcl
  · rw [hS] at hw'; exact hw'.left
theorem R_done (hr : Region.ready .any ops listed = []) (h : K σ n Q .normal E P) : Rg prog σ n ops Q S0 S B fuel listed E P := fun a w ha hw => by
  cases fuel with
  | zero => exact ⟨hr, h a w ha hw⟩
  | succ fuel => exact ⟨fun _ => h a w ha hw, by rw [hr]; simp⟩
theorem Rg_emp (h : Rg prog σ n ops Q S0 S B fuel listed E P) : Rg prog σ n ops Q S0 S B fuel listed E (sep (emp) (P)) := by rw [emp_sep]; exact h
end Go.SLA
namespace Go.SLA
variable {prog : Program} {σ : World} {n : Nat} {Q : Exit → Act → World → Prop} {E E' : Env} {P P' R F : HProp} {ops : Array Oper} {rest : List Oper} {Qa : Act → Prop}
/-! ### Facts of a program -/
def funB (prog : Program) (f : FuncId) : Bool := match prog.funcs[f]? with
  | some fn => fn.body.isSome && fn.name != "runtime.NumGoroutine"
  | none => false
class Fun (prog : Program) (f : FuncId) : Prop where
  b : funB prog f = true
theorem Fun.spec (f : FuncId) [h : Fun prog f] : ∃ fn, prog.funcs[f]? = some fn ∧ fn.body.isNone = false ∧ (fn.name == "runtime.NumGoroutine") = false := by
  have := h.b
  unfold funB at this
  split at this
  · rename_i fn hfn
    simp only [Bool.and_eq_true, bne_iff_ne] at this
    exact ⟨fn, hfn, by cases hb : fn.body <;> simp_all, by simpa using this.2⟩
  · cases this
/-- The cells of a type's zero value. -/
class Zer (prog : Program) (t : TypeId) (zs : outParam (List Value)) : Prop where
  b : ((prog.info? t).bind (·.zero)).map (fun z => z.cells.toList) = some zs
theorem Zer.spec (t : TypeId) (zs : List Value) [h : Zer prog t zs] : ∃ i z, prog.info? t = some i ∧ i.zero = some z ∧ z.cells.toList = zs := by
  have := h.b
  cases hi : prog.info? t with
  | none => simp [hi] at this
  | some i =>
    cases hz : i.zero with
    | none => simp [hi, hz] at this
    | some z => simp only [hi, hz, Option.bind_some, Option.map_some, Option.some.injEq] at this; exact ⟨i, z, rfl, hz, this⟩
/-- The bytes of a type's value. -/
class Byt (prog : Program) (t : TypeId) (B : outParam Nat) : Prop where
  b : infB prog t (fun i => Nat.beq i.bytes B) = true
theorem Byt.spec (t : TypeId) (B : Nat) [h : Byt prog t B] : ∃ i, prog.info? t = some i ∧ i.bytes = B := by
  obtain ⟨i, hi, h1⟩ := infB_spec h.b
  exact ⟨i, hi, Nat.eq_of_beq_eq_true h1⟩
/-- A value of one cell. -/
class Sca (v : Value) : Prop where
  c : v.cells = #[v]
  o : v.oneCell' = true
instance {k : IntKind} {m : Int} : Sca (.int k m) := ⟨rfl, rfl⟩
instance {b : Bool} : Sca (.bool b) := ⟨rfl, rfl⟩
instance {s : ByteArray} : Sca (.string s) := ⟨rfl, rfl⟩
instance {p : Option Addr} : Sca (.pointer p) := ⟨rfl, rfl⟩
instance {p : Option Addr} {l c : Nat} : Sca (.slice p l c) := ⟨rfl, rfl⟩
instance {p : Option Nat} : Sca (.map p) := ⟨rfl, rfl⟩
instance {f : Fn} {a c : Array Value} : Sca (.func f a c) := ⟨rfl, rfl⟩
instance {t : TypeId} {v : Value} : Sca (.iface t v) := ⟨rfl, rfl⟩
/-- A value's cells. -/
class Cel (v : Value) (l : outParam (List Value)) : Prop where
  c : v.cells = l.toArray
instance (priority := 100) {v : Value} [h : Sca v] : Cel v [v] := ⟨h.c⟩
instance (priority := 200) {l : List Value} : Cel (.agg l.toArray) l := ⟨rfl⟩
/-! ### A call -/
theorem Agree.evls {a : Act} (h : Agree n E a) {l : Array Operand} {vs : List Value} (hl : SLA.evl E l.toList = some vs) : l.map a.eval = vs.toArray := by
  rw [← h.evl hl]; exact Array.toList_inj.1 (by rw [Array.toList_map])
theorem run_callFunc (f : FuncId) [Fun prog f] (args : Array Value) (w : World) : (callFunc f args).run prog w = .ok (.enter f args) w := by
  obtain ⟨fn, h1, h2, h3⟩ := Fun.spec (prog := prog) f
  unfold callFunc
  simp only [Sem.run_bind, run_program, Result.andThen_ok, h1, h2, h3, Bool.false_eq_true, if_false, Sem.run_pure]
theorem run_call {o : Oper} {fx : Operand} {args : Array Operand} {tys : Array TypeId} {f : FuncId} {first captured : List Value} [Fun prog f] {vs : List Value} {a : Act} (ha : Agree n E a) (ho : o.op = .call ⟨.value fx, args, tys⟩)
    (hf : ev E fx = some (.func (.func f) first.toArray captured.toArray)) (hv : evl E args.toList = some vs) (w : World) : (execOp a.eval o).run prog w = .ok (.enter f (first ++ vs ++ captured).toArray) w := by
  unfold execOp
  simp only [ho, resolve, Deferred.ofValue, ha.ev hf, ha.evls hv, Sem.run_bind, Sem.run_pure, Result.andThen_ok, invoke, run_callFunc]
  simp
theorem opx_call {d : Nat} {fx : Operand} {args : Array Operand} {tys : Array TypeId} {ty : TypeId} {pos : String} {aft : Array Edge} {g : Option (Nat × Bool)} {f : FuncId} {first captured vs : List Value} {ws : Array Value} {P0 : HProp} {X : Type} {φ : X → Prop} {val : X → Value} {Qo : X → HProp}
    (hs : FSpec prog f ws P0 φ val Qo) (hf : ev E fx = some (.func (.func f) first.toArray captured.toArray)) (hv : evl E args.toList = some vs) (hw : (first ++ vs ++ captured).toArray = ws) (hd : Nat.blt d n = true) [Fun prog f] [hT : Take P P0 R] :
    OpX prog σ n E P ⟨some d, .call ⟨.value fx, args, tys⟩, ty, pos, aft, g⟩ φ (fun x => (d, val x) :: E) (fun x => (sep (Qo x) (R))) := by
  intro a w ha hw' Kn Q' hk
  unfold Oper.wp
  rw [run_call ha rfl hf hv w, Oper.upon_enter, hw]
  rw [hT.eq] at hw'
  refine (hs σ w R hw').mono ?_
  rintro e w'' ⟨x, hx, rfl, hx'⟩
  exact hk x _ _ hx (ha.put (Nat.le_of_ble_eq_true hd) _) hx'
theorem opx_call0 {d : Nat} {args : Array Operand} {tys : Array TypeId} {ty : TypeId} {pos : String} {aft : Array Edge} {g : Option (Nat × Bool)} {f : FuncId} {vs : List Value} {ws : Array Value} {P0 : HProp} {X : Type} {φ : X → Prop} {val : X → Value} {Qo : X → HProp}
    (hs : FSpec prog f ws P0 φ val Qo) (hv : evl E args.toList = some vs) (hw : vs.toArray = ws) (hd : Nat.blt d n = true) [Fun prog f] [hT : Take P P0 R] :
    OpX prog σ n E P ⟨some d, .call ⟨.value (.func f), args, tys⟩, ty, pos, aft, g⟩ φ (fun x => (d, val x) :: E) (fun x => (sep (Qo x) (R))) :=
  opx_call (first := []) (captured := []) hs rfl hv (by simpa using hw) hd
/-- A call that leaves what it finds and answers one value. -/
theorem Q_call {d : Nat} {args : Array Operand} {tys : Array TypeId} {ty : TypeId} {pos : String} {aft : Array Edge} {f : FuncId} {vs : List Value} {ws : Array Value} {P0 : HProp} {X : Type} {φ : X → Prop} {val : X → Value} {Qo : X → HProp} {v : Value}
    (hs : FSpec prog f ws P0 φ val Qo) (hv : evl E args.toList = some vs) (hw : vs.toArray = ws) (hval : ∀ x, φ x → val x = v) (hq : ∀ x, φ x → Ent (Qo x) P0) (hd : Nat.blt d n = true) [Fun prog f] [hT : Take P P0 R]
    (k : QL prog σ n ops rest Qa ((d, v) :: E) P) : QL prog σ n ops (⟨some d, .call ⟨.value (.func f), args, tys⟩, ty, pos, aft, none⟩ :: rest) Qa E P := fun a ha => by
  unfold wpQuiet
  rw [if_pos (show Region.wanted ⟨some d, _, ty, pos, aft, none⟩ (yielded ops a.tmps) = true from rfl)]
  refine ⟨v, fun w hsw => ?_, k _ (ha.put (Nat.le_of_ble_eq_true hd) v)⟩
  unfold Oper.quietAt
  rw [run_call (first := []) (captured := []) ha rfl rfl hv w]
  refine ⟨rfl, ?_⟩
  rw [List.nil_append, List.append_nil, hw]
  have hsw' := hsw
  rw [hT.eq] at hsw'
  refine (hs σ w R hsw').mono ?_
  rintro e w'' ⟨x, hx, rfl, hx'⟩
  refine ⟨by rw [hval x hx], ?_⟩
  show Sat σ w'' P
  rw [hT.eq]
  exact hx'.ent ((hq x hx).frame R)
/-! ### New memory -/
section
variable {d : Nat} {ty : TypeId} {pos : String} {aft : Array Edge} {g : Option (Nat × Bool)} {x y z : Operand} {t t' : TypeId} {k : IntKind} {v u : Value}
theorem opx_alloc {zs : List Value} [Zer prog t zs] (hd : Nat.blt d n = true) :
    OpX prog σ n E P ⟨some d, .alloc t, ty, pos, aft, g⟩ (fun _ : Nat => True) (fun b => (d, .pointer (some (ad b 0))) :: E) (fun b => (sep (cel b zs t) (P))) := by
  refine OpX.of_run rfl hd fun a w ha hs => ?_
  obtain ⟨i, z, h1, h2, h3⟩ := Zer.spec (prog := prog) t zs
  refine ⟨w.heap.size, w.alloc (.cells zs.toArray t), trivial, ?_, hs.alloc _⟩
  simp only [execOp, Instr.alloc, zeroValue, Sem.run_bind, run_typeInfo' h1, Result.andThen_ok, h2, Sem.run_pure, newVar, newRow, run_newObj]
  rw [← h3]
  rfl
theorem opx_box {l : List Value} [hc : Cel v l] (hx : ev E x = some v) (hd : Nat.blt d n = true) :
    OpX prog σ n E P ⟨some d, .box t x, ty, pos, aft, g⟩ (fun _ : Nat => True) (fun b => (d, .pointer (some (ad b 0))) :: E) (fun b => (sep (cel b l t) (P))) := by
  refine OpX.of_run rfl hd fun a w ha hs => ?_
  refine ⟨w.heap.size, w.alloc (.cells l.toArray t), trivial, ?_, hs.alloc _⟩
  simp only [execOp, ha.ev hx, Instr.box, Sem.run_bind, newVar, newRow, run_newObj, Result.andThen_ok, Sem.run_pure, hc.c]
  rfl
/-- The values of a literal's parts. -/
def evp (E : Env) : List (Nat × Operand) → Option (List (Nat × Value))
  | [] => some []
  | (i, x) :: l => match ev E x, evp E l with
    | some v, some vs => some ((i, v) :: vs)
    | _, _ => none
theorem Agree.evp {a : Act} (h : Agree n E a) : ∀ {l : List (Nat × Operand)} {vs : List (Nat × Value)}, evp E l = some vs → l.map (fun (i, x) => (i, a.eval x)) = vs
  | [], vs, hl => by simpa [SLA.evp] using hl
  | (i, x) :: l, vs, hl => by
    simp only [SLA.evp] at hl
    split at hl
    · rename_i v us hv hus
      simp only [Option.some.injEq] at hl
      subst hl
      rw [List.map_cons, h.evp hus]
      dsimp only
      rw [h.ev hv]
    · cases hl
/-- Cells vs laid at o. -/
class Spl (l : List Value) (o : Nat) (vs : List Value) (l' : outParam (List Value)) : Prop where
  eq : l' = l.take o ++ vs ++ l.drop (o + vs.length)
  le : o + vs.length ≤ l.length
instance {l : List Value} : Spl l 0 [] l := ⟨by simp, by simp⟩
instance {l l' vs : List Value} {x v : Value} [h : Spl l 0 vs l'] : Spl (x :: l) 0 (v :: vs) (v :: l') := ⟨by
  have := h.eq; simp only [List.take_zero, List.nil_append, Nat.zero_add] at this; simp [this], by have := h.le; simp; omega⟩
instance {l l' vs : List Value} {x : Value} {o : Nat} [h : Spl l o vs l'] : Spl (x :: l) (o + 1) vs (x :: l') := ⟨by
  have := h.eq; rw [show o + 1 + vs.length = (o + vs.length) + 1 by omega]; simp [this], by have := h.le; simp; omega⟩
theorem foldl_lay (vs : List Value) : ∀ (o j : Nat) (l : List Value), o + j + vs.length ≤ l.length →
    (vs.zipIdx j).foldl (fun (cs : Array Value) (c : Value × Nat) => cs.setIfInBounds (o + c.2) c.1) l.toArray = (l.take (o + j) ++ vs ++ l.drop (o + j + vs.length)).toArray := by
  induction vs with
  | nil => intro o j l h; simp
  | cons v vs ih =>
    intro o j l h
    simp only [List.length_cons] at h
    rw [List.zipIdx_cons, List.foldl_cons]
    have e : l.toArray.setIfInBounds (o + j) v = (l.set (o + j) v).toArray := by simp
    dsimp only
    rw [e, ih o (j + 1) _ (by simp; omega)]
    congr 1
    rw [show o + (j + 1) = o + j + 1 by omega, List.length_cons, show o + j + 1 + vs.length = o + j + (vs.length + 1) by omega]
    have h1 : (l.set (o + j) v).take (o + j + 1) = l.take (o + j) ++ [v] := by
      rw [List.take_succ_eq_append_getElem (by simp; omega), List.take_set_of_le (Nat.le_refl _)]
      simp
    have h2 : (l.set (o + j) v).drop (o + j + (vs.length + 1)) = l.drop (o + j + (vs.length + 1)) := List.drop_set_of_lt (by omega)
    rw [h1, h2]
    simp
theorem foldl_zip (vs : List Value) (f : Array Value → Value × Nat → Array Value) (z : Array Value) : vs.toArray.zipIdx.foldl f z = (vs.zipIdx 0).foldl f z := by
  rw [← Array.foldl_toList, Array.toList_zipIdx]
theorem fill_cons {place : Nat → Option (Nat × Nat)} {l : List Value} {i : Nat} {v : Value} {ps : List (Nat × Value)} {o m : Nat} {vs : List Value} (hp : place i = some (o, m)) (hc : v.cells = vs.toArray) (hl : vs.length = m) (hle : o + m ≤ l.length) :
    Instr.fill place l.toArray ((i, v) :: ps) = Instr.fill place (l.take o ++ vs ++ l.drop (o + m)).toArray ps := by
  subst hl
  have h2 := foldl_lay vs o 0 l (by simpa using hle)
  simp only [Nat.add_zero] at h2
  have h3 : ¬ (o + vs.length > l.length) := by omega
  rw [Instr.fill]
  simp only [hp, hc, List.size_toArray]
  have hb : (vs.length != vs.length || decide (o + vs.length > l.length)) = false := by simp [h3]
  split
  · rename_i hh
    exfalso
    simp at hh
    omega
  · rw [foldl_zip, h2]
/-- The parts of a literal laid into its zero cells: place i is at (pl i). -/
class Fil (pl : List (Nat × Nat)) (l : List Value) (ps : List (Nat × Value)) (l' : outParam (List Value)) : Prop where
  eq : Instr.fill (fun i => pl[i]?) l.toArray ps = some l'.toArray
instance {pl : List (Nat × Nat)} {l : List Value} : Fil pl l [] l := ⟨rfl⟩
/-- The place i of a list of places. -/
class Plc (pl : List (Nat × Nat)) (i : Nat) (o m : outParam Nat) : Prop where
  eq : pl[i]? = some (o, m)
instance {pl : List (Nat × Nat)} {o m : Nat} : Plc ((o, m) :: pl) 0 o m := ⟨rfl⟩
instance {pl : List (Nat × Nat)} {i o m : Nat} {x : Nat × Nat} [h : Plc pl i o m] : Plc (x :: pl) (i + 1) o m := ⟨h.eq⟩
class Len (l : List Value) (m : Nat) : Prop where
  eq : l.length = m
instance : Len [] 0 := ⟨rfl⟩
instance {l : List Value} {x : Value} {m : Nat} [h : Len l m] : Len (x :: l) (m + 1) := ⟨by simp [h.eq]⟩
instance {pl : List (Nat × Nat)} {l l1 l' vs : List Value} {i o m : Nat} {v : Value} {ps : List (Nat × Value)} [hp : Plc pl i o m] [hc : Cel v vs] [hl : Len vs m] [hs : Spl l o vs l1] [hf : Fil pl l1 ps l'] : Fil pl l ((i, v) :: ps) l' := ⟨by
  have h1 := hs.le
  have h2 := hl.eq
  rw [fill_cons hp.eq hc.c h2 (by omega), ← hf.eq, hs.eq, h2]⟩
/-- A struct's fields: where each stands, and its cells. -/
class Pls (prog : Program) (t : TypeId) (pl : outParam (List (Nat × Nat))) : Prop where
  b : undB prog t (fun | .struct fs => (fs.toList.map fun f => (f.offset, (prog.info? f.type).map (·.size))) == pl.map fun (o, m) => (o, some m) | _ => false) = true
theorem run_places (w : World) : ∀ (fs : List Field) (pl : List (Nat × Nat)), (fs.map fun f => (f.offset, (prog.info? f.type).map (·.size))) = (pl.map fun (o, m) => (o, some m)) →
    (fs.mapM (m := Sem) fun f => do pure (f.offset, ← sizeOf f.type)).run prog w = .ok pl w
  | [], [], _ => rfl
  | [], _ :: _, h => by simp at h
  | _ :: _, [], h => by simp at h
  | f :: fs, (o, m) :: pl, h => by
    simp only [List.map_cons, List.cons.injEq, Prod.mk.injEq] at h
    obtain ⟨⟨h1, h2⟩, h3⟩ := h
    cases hi : prog.info? f.type with
    | none => simp [hi] at h2
    | some i =>
      simp only [hi, Option.map_some, Option.some.injEq] at h2
      simp only [List.mapM_cons, Sem.run_bind, run_sizeOf' hi, Result.andThen_ok, Sem.run_pure, run_places w fs pl h3, h1, h2]
theorem opv_build {d : Option Tmp} {zs l : List Value} {pl : List (Nat × Nat)} {parts : Array (Nat × Operand)} {ps : List (Nat × Value)} [Zer prog t zs] [hp : Pls prog t pl] (he : evp E parts.toList = some ps) [hf : Fil pl zs ps l] :
    OpV prog σ n E P ⟨d, .build t parts, ty, pos, aft, g⟩ (.agg l.toArray) := fun a w ha _ => by
  obtain ⟨i, z, h1, h2, h3⟩ := Zer.spec (prog := prog) t zs
  obtain ⟨dd, hd, hb⟩ := undB_spec hp.b
  split at hb
  · rename_i fs
    have hb := eq_of_beq hb
    have hm : (fs.mapM (m := Sem) fun f => do pure (f.offset, ← sizeOf f.type)).run prog w = .ok pl.toArray w := by
      rw [Array.mapM_eq_mapM_toList, Sem.run_map, run_places w _ _ hb]
      rfl
    have hps : (parts.map fun x => (x.1, a.eval x.2)) = ps.toArray := by rw [← ha.evp he]; exact Array.toList_inj.1 (by rw [Array.toList_map])
    have hz : z.cells = zs.toArray := by rw [← h3]
    have hfl : (fun i : Nat => pl.toArray[i]?) = fun i : Nat => pl[i]? := by funext i; simp
    simp only [execOp, Instr.build, zeroValue, Sem.run_bind, run_typeInfo' h1, Result.andThen_ok, h2, Sem.run_pure, run_und' hd, hm, hps, hz, hfl]
    rw [hf.eq]
    rfl
  · cases hb
/-- A literal of a slice of elements of one cell, all of them given. -/
def nums : Nat → List Value → List (Nat × Value)
  | _, [] => []
  | i, v :: l => (i, v) :: nums (i + 1) l
theorem fill_ones : ∀ (vs : List Value) (k : Nat) (l : List Value), (∀ v ∈ vs, v.cells = #[v]) → k + vs.length ≤ l.length →
    Instr.fill (fun i => some (i * 1, 1)) l.toArray (nums k vs) = some (l.take k ++ vs ++ l.drop (k + vs.length)).toArray
  | [], k, l, _, _ => by simp [nums, Instr.fill]
  | v :: vs, k, l, h, hk => by
    simp only [List.length_cons] at hk
    have hv := h v (by simp)
    rw [nums, fill_cons (o := k) (m := 1) (vs := [v]) (by simp) hv rfl (by omega)]
    rw [fill_ones vs (k + 1) _ (fun u hu => h u (by simp [hu])) (by simp; omega)]
    congr 2
    have t1 : (l.take k ++ [v] ++ l.drop (k + 1)).take (k + 1) = l.take k ++ [v] := by
      rw [List.take_left' (by simp; omega)]
    have t2 : (l.take k ++ [v] ++ l.drop (k + 1)).drop (k + 1 + vs.length) = l.drop (k + (vs.length + 1)) := by
      rw [← List.drop_drop, List.drop_left' (by simp; omega), List.drop_drop]
      congr 1
      omega
    rw [t1, t2, List.length_cons]
    simp
theorem opx_buildSliceS {e len : Nat} {zs : List Value} {parts : Array (Nat × Operand)} {vs : List Value} [Slc prog t e 1] [Zer prog e zs] (he : evp E parts.toList = some (nums 0 vs)) (hl : vs.length = len) (hlen : len ≤ 16777216) (h1 : ∀ v ∈ vs, v.cells = #[v]) (hd : Nat.blt d n = true) :
    OpX prog σ n E P ⟨some d, .buildSlice t len parts, ty, pos, aft, g⟩ (fun _ : Nat => True) (fun b => (d, .slice (some (ad b 0)) len len) :: E) (fun b => (sep (cel b vs e) (P))) := by
  refine OpX.of_run rfl hd fun a w ha hs => ?_
  obtain ⟨hu, i, hi, hsz⟩ := Slc.spec (prog := prog) t e 1
  obtain ⟨i', z, h1', h2, h3⟩ := Zer.spec (prog := prog) e zs
  refine ⟨w.heap.size, w.alloc (.cells vs.toArray e), trivial, ?_, hs.alloc _⟩
  have hps : (parts.map fun x => (x.1, a.eval x.2)) = (nums 0 vs).toArray := by rw [← ha.evp he]; exact Array.toList_inj.1 (by rw [Array.toList_map])
  have hf : ∀ zc : Array Value, Instr.fill (fun i => some (i * 1, 1)) ((Array.range (len * 1)).map (zc[· % zc.size]!)) (nums 0 vs) = some vs.toArray := fun zc => by
    have := fill_ones vs 0 ((Array.range (len * 1)).map (zc[· % zc.size]!)).toList h1 (by simp [hl])
    rw [Array.toArray_toList] at this
    rw [this]
    simp [hl]
  have hsz' : (sizeOf e).run prog w = .ok 1 w := by rw [run_sizeOf' hi, hsz]
  have hle : ¬ (len * 1 > 2 ^ 24) := by omega
  simp only [execOp, Instr.buildSlice, Sem.run_bind, run_und' hu, Result.andThen_ok, hsz', hle, if_false, Sem.run_ite, Sem.run_pure, hps]
  by_cases h0 : len * 1 = 0
  · simp only [h0, if_true, Result.andThen_ok]
    have := hf #[]
    rw [h0] at this
    rw [this]
    simp only [Sem.run_bind, newRow, run_newObj, Result.andThen_ok, Sem.run_pure]
    rfl
  · simp only [h0, if_false, Sem.run_bind, zeroValue, run_typeInfo' h1', Result.andThen_ok, h2, Sem.run_pure, hf, newRow, run_newObj]
    rfl
/-- A literal of a slice of one element, of any number of cells. -/
theorem opx_buildSlice1 {e m : Nat} {zs : List Value} {l : List Value} [Slc prog t e m] [Zer prog e zs] (hx : ev E x = some v) [hc : Cel v l] (hl : l.length = m) (hm : m ≤ 16777216) (h0 : m ≠ 0) (hd : Nat.blt d n = true) :
    OpX prog σ n E P ⟨some d, .buildSlice t 1 #[(0, x)], ty, pos, aft, g⟩ (fun _ : Nat => True) (fun b => (d, .slice (some (ad b 0)) 1 1) :: E) (fun b => (sep (cel b l e) (P))) := by
  refine OpX.of_run rfl hd fun a w ha hs => ?_
  obtain ⟨hu, i, hi, hsz⟩ := Slc.spec (prog := prog) t e m
  obtain ⟨i', z, h1', h2, h3⟩ := Zer.spec (prog := prog) e zs
  refine ⟨w.heap.size, w.alloc (.cells l.toArray e), trivial, ?_, hs.alloc _⟩
  have hf : ∀ zc : Array Value, Instr.fill (fun i => some (i * m, m)) ((Array.range (1 * m)).map (zc[· % zc.size]!)) [(0, v)] = some l.toArray := fun zc => by
    have := fill_cons (place := fun i => some (i * m, m)) (l := ((Array.range (1 * m)).map (zc[· % zc.size]!)).toList) (i := 0) (v := v) (ps := []) (o := 0) (m := m) (vs := l) (by simp) hc.c hl (by simp)
    rw [Array.toArray_toList] at this
    rw [this, Instr.fill]
    simp
  have hsz' : (sizeOf e).run prog w = .ok m w := by rw [run_sizeOf' hi, hsz]
  have hle : ¬ (1 * m > 2 ^ 24) := by omega
  have h0' : ¬ (1 * m = 0) := by omega
  simp only [execOp, Instr.buildSlice, Sem.run_bind, run_und' hu, Result.andThen_ok, hsz', hle, if_false, Sem.run_ite, Sem.run_pure, h0', zeroValue, run_typeInfo' h1', h2, List.map_toArray, List.map_cons, List.map_nil, ha.ev hx]
  rw [hf]
  simp only [Sem.run_bind, newRow, run_newObj, Result.andThen_ok, Sem.run_pure]
  rfl
/-! ### Stores -/
class Siz (prog : Program) (t : TypeId) (m : outParam Nat) : Prop where
  b : infB prog t (fun i => Nat.beq i.size m) = true
theorem Siz.spec (t : TypeId) (m : Nat) [h : Siz prog t m] : ∃ i, prog.info? t = some i ∧ i.size = m := by
  obtain ⟨i, hi, h1⟩ := infB_spec h.b
  exact ⟨i, hi, Nat.eq_of_beq_eq_true h1⟩
theorem setRow_sat {w : World} {b : Nat} {l l' : List Value} {t : TypeId} (h : Sat σ w (sep (cel b l t) (R))) : Sat σ (w.setRow b l'.toArray) (sep (cel b l' t) (R)) :=
  h.update (w' := w.setRow b l'.toArray) rfl rfl rfl (setRow_heap w b _ _ t _ h.blk) (fun k hk => setRow_other w b k _ hk)
theorem run_storeN {t : TypeId} {m b o : Nat} {l vs : List Value} {te : TypeId} {w : World} {v : Value} [Siz prog t m] (hs : Sat σ w (sep (cel b l te) (R))) (hc : v.cells = vs.toArray) (hl : vs.length = m) (h1 : ∀ u ∈ vs, u.oneCell' = true) (hle : o + vs.length ≤ l.length) :
    (storeVar t (ad b o) v).run prog w = .ok () (w.setRow b (l.take o ++ vs ++ l.drop (o + vs.length)).toArray) := by
  obtain ⟨i, hi, h2⟩ := Siz.spec (prog := prog) t m
  unfold storeVar
  simp only [Sem.run_bind, run_sizeOf' hi, Result.andThen_ok, hc, List.size_toArray, hl, h2, ne_eq, not_true_eq_false, if_false, Sem.run_pure, Sem.run_ite]
  have := run_storeCells_at prog b o te vs 0 l.toArray w hs.blk (by simpa using hle) h1
  rw [hl] at this
  simpa [ad] using this
theorem opx_store {m b o : Nat} {l l' vs : List Value} {te : TypeId} [Siz prog t m] (hx : ev E x = some (.pointer (some (ad b o)))) (hy : ev E y = some v) [hc : Cel v vs] (hl : vs.length = m) (h1 : ∀ u ∈ vs, u.oneCell' = true) [hk : Look P b l te R] [hs : Spl l o vs l'] :
    OpX prog σ n E P ⟨none, .store t x y, ty, pos, aft, g⟩ (fun _ : Unit => True) (fun _ => E) (fun _ => (sep (cel b l' te) (R))) := by
  refine OpX.of_skip rfl fun a w ha hw => ?_
  rw [hk.eq] at hw
  refine ⟨(), _, trivial, ?_, setRow_sat (l' := l') hw⟩
  have := run_storeN (prog := prog) (t := t) (m := m) hw hc.c hl h1 hs.le
  simp only [execOp, ha.ev hx, ha.ev hy, Instr.storeAt, Instr.sureAddr, Sem.run_bind, Sem.run_pure, Result.andThen_ok, this, hs.eq]
/-- A store at a place that is no numeral. -/
theorem opx_storeAt {m b o : Nat} {l l' vs : List Value} {te : TypeId} [Siz prog t m] (hx : ev E x = some (.pointer (some (ad b o)))) (hy : ev E y = some v) [hc : Cel v vs] (hl : vs.length = m) (h1 : ∀ u ∈ vs, u.oneCell' = true) [hk : Look P b l te R]
    (hle : o + vs.length ≤ l.length) (hl' : l' = l.take o ++ vs ++ l.drop (o + vs.length)) :
    OpX prog σ n E P ⟨none, .store t x y, ty, pos, aft, g⟩ (fun _ : Unit => True) (fun _ => E) (fun _ => (sep (cel b l' te) (R))) := by
  refine OpX.of_skip rfl fun a w ha hw => ?_
  rw [hk.eq] at hw
  refine ⟨(), _, trivial, ?_, setRow_sat (l' := l') hw⟩
  have := run_storeN (prog := prog) (t := t) (m := m) hw hc.c hl h1 hle
  simp only [execOp, ha.ev hx, ha.ev hy, Instr.storeAt, Instr.sureAddr, Sem.run_bind, Sem.run_pure, Result.andThen_ok, this, hl']
end
end Go.SLA
namespace Go.SLA
variable {prog : Program} {σ : World} {n : Nat} {Q : Exit → Act → World → Prop} {E E' : Env} {P P' R F : HProp} {ops : Array Oper} {rest : List Oper} {Qa : Act → Prop}
/-! ### Case by case -/
theorem J_pre {X : Type} (P' : X → HProp) (φ : X → Prop) (h : ∀ w, Sat σ w P → ∃ x, φ x ∧ Sat σ w (P' x)) {c : Code} (k : ∀ x, φ x → J prog σ n c Q E (P' x)) : J prog σ n c Q E P :=
  fun a w ha hw => let ⟨x, hx, hs⟩ := h w hw; k x hx a w ha hs
/-! ### Memory that came in -/
/-! ### Cutting -/
section
variable {d : Option Tmp} {ty : TypeId} {pos : String} {aft : Array Edge} {g : Option (Nat × Bool)} {x y z : Operand} {t t' : TypeId} {k k' : IntKind} {a b : Int} {v u : Value} {s r : ByteArray}
theorem run_bound {w : World} {k : IntKind} {m : Int} {y : Nat} {c : BoundsCode} (h : 0 ≤ m ∧ m ≤ y) : (Instr.sliceBound (.int k m) y c).run prog w = .ok m.toNat w := by
  simp only [Instr.sliceBound, asIntOf, Sem.run_bind, Sem.run_pure, Result.andThen_ok, Sem.run_ite]
  rw [if_pos h]
theorem opv_sliceS [Str prog t] {lo hi : Operand} (hx : ev E x = some (.string s)) (hl : ev E lo = some (.int k a)) (hh : ev E hi = some (.int k' b)) (h : 0 ≤ a ∧ a ≤ b ∧ b ≤ s.size) :
    OpV prog σ n E P ⟨d, .slice t x (some lo) (some hi) none, ty, pos, aft, g⟩ (.string (s.extract a.toNat b.toNat)) := fun _ w ha _ => by
  simp only [execOp, ha.ev hx, Option.map_some, Option.map_none, ha.ev hl, ha.ev hh, Instr.sliceAt, Instr.slice, Sem.run_bind, run_und' (Str.spec (prog := prog) t), Result.andThen_ok, Option.isSome_none, Bool.false_eq_true, if_false, Instr.sliceBounds, Sem.run_pure,
    run_bound (prog := prog) (w := w) (k := k') (m := b) (y := s.size) ⟨by omega, by omega⟩, run_bound (prog := prog) (w := w) (k := k) (m := a) (y := b.toNat) ⟨by omega, by omega⟩, Sem.run_ite]
theorem opv_sliceSlo [Str prog t] {lo : Operand} (hx : ev E x = some (.string s)) (hl : ev E lo = some (.int k a)) (h : 0 ≤ a ∧ a ≤ s.size) :
    OpV prog σ n E P ⟨d, .slice t x (some lo) none none, ty, pos, aft, g⟩ (.string (s.extract a.toNat s.size)) := fun _ w ha _ => by
  simp only [execOp, ha.ev hx, Option.map_some, Option.map_none, ha.ev hl, Instr.sliceAt, Instr.slice, Sem.run_bind, run_und' (Str.spec (prog := prog) t), Result.andThen_ok, Option.isSome_none, Bool.false_eq_true, if_false, Instr.sliceBounds, Sem.run_pure,
    run_bound (prog := prog) (w := w) (k := k) (m := a) (y := s.size) ⟨by omega, by omega⟩, Sem.run_ite]
theorem opv_sliceShi [Str prog t] {hi : Operand} (hx : ev E x = some (.string s)) (hh : ev E hi = some (.int k' b)) (h : 0 ≤ b ∧ b ≤ s.size) :
    OpV prog σ n E P ⟨d, .slice t x none (some hi) none, ty, pos, aft, g⟩ (.string (s.extract 0 b.toNat)) := fun _ w ha _ => by
  simp only [execOp, ha.ev hx, Option.map_some, Option.map_none, ha.ev hh, Instr.sliceAt, Instr.slice, Sem.run_bind, run_und' (Str.spec (prog := prog) t), Result.andThen_ok, Option.isSome_none, Bool.false_eq_true, if_false, Instr.sliceBounds, Sem.run_pure,
    run_bound (prog := prog) (w := w) (k := k') (m := b) (y := s.size) ⟨by omega, by omega⟩, Sem.run_ite]
/-- A slice's value behind a cut: from l to h, room to m. -/
def cutV (A : Option Addr) (l h m size : Nat) : Value := .slice (if m = l then A else A.map (·.add (l * size))) (h - l) (m - l)
theorem cutV_at (b o l h m size : Nat) : cutV (some (ad b o)) l h m size = .slice (some (ad b (if m = l then o else o + l * size))) (h - l) (m - l) := by
  unfold cutV
  split
  · rfl
  · simp [ad_add]
theorem opv_sliceLlo {e m : Nat} {A : Option Addr} {len cap : Nat} {lo : Operand} [Slc prog t e m] (hx : ev E x = some (.slice A len cap)) (hl : ev E lo = some (.int k a)) (h : 0 ≤ a ∧ a ≤ len) :
    OpV prog σ n E P ⟨d, .slice t x (some lo) none none, ty, pos, aft, g⟩ (cutV A a.toNat len cap m) := fun _ w ha _ => by
  obtain ⟨h1, i, h2, h3⟩ := Slc.spec (prog := prog) t e m
  simp only [execOp, ha.ev hx, Option.map_some, Option.map_none, ha.ev hl, Instr.sliceAt, Instr.slice, Sem.run_bind, run_und' h1, Result.andThen_ok, Instr.sliceBounds, Sem.run_pure,
    run_bound (prog := prog) (w := w) (k := k) (m := a) (y := len) ⟨by omega, by omega⟩, run_sizeOf' h2, h3, cutV]
theorem opv_sliceLhi {e m : Nat} {A : Option Addr} {len cap : Nat} {hi : Operand} [Slc prog t e m] (hx : ev E x = some (.slice A len cap)) (hh : ev E hi = some (.int k' b)) (h : 0 ≤ b ∧ b ≤ cap) :
    OpV prog σ n E P ⟨d, .slice t x none (some hi) none, ty, pos, aft, g⟩ (cutV A 0 b.toNat cap m) := fun _ w ha _ => by
  obtain ⟨h1, i, h2, h3⟩ := Slc.spec (prog := prog) t e m
  simp only [execOp, ha.ev hx, Option.map_some, Option.map_none, ha.ev hh, Instr.sliceAt, Instr.slice, Sem.run_bind, run_und' h1, Result.andThen_ok, Instr.sliceBounds, Sem.run_pure,
    run_bound (prog := prog) (w := w) (k := k') (m := b) (y := cap) ⟨by omega, by omega⟩, run_sizeOf' h2, h3, cutV]
theorem opv_sliceLhm {e m : Nat} {A : Option Addr} {len cap : Nat} {hi mx : Operand} {c : Int} {k'' : IntKind} [Slc prog t e m] (hx : ev E x = some (.slice A len cap)) (hh : ev E hi = some (.int k' b)) (hm : ev E mx = some (.int k'' c)) (h : 0 ≤ b ∧ b ≤ c ∧ c ≤ cap) :
    OpV prog σ n E P ⟨d, .slice t x none (some hi) (some mx), ty, pos, aft, g⟩ (cutV A 0 b.toNat c.toNat m) := fun _ w ha _ => by
  obtain ⟨h1, i, h2, h3⟩ := Slc.spec (prog := prog) t e m
  simp only [execOp, ha.ev hx, Option.map_some, Option.map_none, ha.ev hh, ha.ev hm, Instr.sliceAt, Instr.slice, Sem.run_bind, run_und' h1, Result.andThen_ok, Instr.sliceBounds, Sem.run_pure,
    run_bound (prog := prog) (w := w) (k := k'') (m := c) (y := cap) ⟨by omega, by omega⟩, run_bound (prog := prog) (w := w) (k := k') (m := b) (y := c.toNat) ⟨by omega, by omega⟩, run_sizeOf' h2, h3, cutV]
end
/-! ### A slice of a call's own: the whole array is its own -/
inductive Rep where
  | nil
  | at (b cap : Nat) (pre post : List Value)
def ownAt (e m : Nat) (v : Value) (len : Nat) (l : List Value) : Rep → HProp
  | .nil => lift (v = .slice none 0 0 ∧ len = 0 ∧ l = [])
  | .at b cap pre post => (sep (lift (v = .slice (some (ad b pre.length)) len cap ∧ len ≤ cap ∧ cap ≤ maxLen ∧ l.length = len * m ∧ (cap - len) * m ≤ post.length)) (cel b (pre ++ l ++ post) e))
/-- v is a slice of len elements of type e, of m cells each, with cells l; its array is nobody else's. -/
def Own (e m : Nat) (v : Value) (len : Nat) (l : List Value) : HProp := ex (ownAt e m v len l)
theorem sat_own {w : World} {e m len : Nat} {v : Value} {l : List Value} (h : Sat σ w (sep (Own e m v len l) (P))) :
    (v = .slice none 0 0 ∧ len = 0 ∧ l = [] ∧ Sat σ w P) ∨
    ∃ b cap pre post, v = .slice (some (ad b pre.length)) len cap ∧ len ≤ cap ∧ cap ≤ maxLen ∧ l.length = len * m ∧ (cap - len) * m ≤ post.length ∧ Sat σ w (sep (cel b (pre ++ l ++ post) e) (P)) := by
  obtain ⟨r, hr⟩ := sat_ex.1 h
  cases r with
  | nil =>
    obtain ⟨⟨h1, h2, h3⟩, h4⟩ := sat_lift.1 hr
    exact .inl ⟨h1, h2, h3, h4⟩
  | «at» b cap pre post =>
    simp only [ownAt, sep_assoc] at hr
    obtain ⟨⟨h1, h2, h3, h4, h5⟩, h6⟩ := sat_lift.1 hr
    exact .inr ⟨b, cap, pre, post, h1, h2, h3, h4, h5, h6⟩
theorem Own.nil (e m : Nat) : Ent emp (Own e m (.slice none 0 0) 0 []) := Ent.pt fun h hh => ⟨.nil, ⟨rfl, rfl, rfl⟩, hh⟩
theorem Own.mk {e m len b cap : Nat} {v : Value} {l pre post : List Value} (h1 : v = .slice (some (ad b pre.length)) len cap) (h2 : len ≤ cap) (h3 : cap ≤ maxLen) (h4 : l.length = len * m) (h5 : (cap - len) * m ≤ post.length) : Ent (cel b (pre ++ l ++ post) e) (Own e m v len l) :=
  Ent.trans (Ent.lift ⟨h1, h2, h3, h4, h5⟩) (Ent.exo (f := ownAt e m v len l) (.at b cap pre post))
theorem Own.lit {e m len b : Nat} {l : List Value} (h4 : l.length = len * m) (h3 : len ≤ maxLen) : Ent (cel b l e) (Own e m (.slice (some (ad b 0)) len len) len l) := by
  have := Own.mk (e := e) (m := m) (len := len) (b := b) (cap := len) (v := .slice (some (ad b 0)) len len) (l := l) (pre := []) (post := []) rfl (Nat.le_refl _) h3 h4 (by simp)
  simpa using this
theorem J_own {e m len : Nat} {v : Value} {l : List Value} {c : Code} (h0 : v = .slice none 0 0 → len = 0 → l = [] → J prog σ n c Q E P)
    (h1 : ∀ b cap pre post, v = .slice (some (ad b (List.length pre))) len cap → len ≤ cap → cap ≤ maxLen → l.length = len * m → (cap - len) * m ≤ List.length post → J prog σ n c Q E (sep (cel b (pre ++ l ++ post) e) (P))) : J prog σ n c Q E (sep (Own e m v len l) (P)) :=
  fun a w ha hw => by
    rcases sat_own hw with ⟨g1, g2, g3, g4⟩ | ⟨b, cap, pre, post, g1, g2, g3, g4, g5, g6⟩
    · exact h0 g1 g2 g3 a w ha g4
    · exact h1 b cap pre post g1 g2 g3 g4 g5 a w ha g6
theorem FSpec.conseq {X Y : Type} {f : FuncId} {args : Array Value} {P' : HProp} {φ : Y → Prop} {val : Y → Value} {Qo : Y → HProp} {φ' : X → Prop} {val' : X → Value} {Qo' : X → HProp} (h : FSpec prog f args P' φ' val' Qo') (hp : Ent P P')
    (hq : ∀ x, φ' x → ∃ y, φ y ∧ val' x = val y ∧ Ent (Qo' x) (Qo y)) : FSpec prog f args P φ val Qo :=
  fun σ w F hs => (h σ w F (hs.ent (hp.frame F))).mono fun e w' ⟨x, hx, he, hs'⟩ => let ⟨y, hy, hv, hent⟩ := hq x hx; ⟨y, hy, by rw [he, hv], hs'.ent (hent.frame F)⟩
/-- What is known of the value of a slice of one's own. -/
theorem own_val {w : World} {e m len : Nat} {v : Value} {l : List Value} (h : Sat σ w (sep (Own e m v len l) (P))) : ∃ A cap, v = .slice A len cap ∧ len ≤ cap ∧ cap ≤ maxLen ∧ l.length = len * m := by
  rcases sat_own h with ⟨rfl, rfl, rfl, _⟩ | ⟨b, cap, pre, post, rfl, h2, h3, h4, _, _⟩
  · exact ⟨none, 0, rfl, Nat.le_refl _, Nat.zero_le _, by simp⟩
  · exact ⟨_, cap, rfl, h2, h3, h4⟩
theorem mid_get {α : Type} (pre l post : List α) (i : Nat) (h : i < l.length) : (pre ++ l ++ post)[pre.length + i]? = l[i]? := by
  rw [List.append_assoc, List.getElem?_append_right (by omega), show pre.length + i - pre.length = i by omega, List.getElem?_append_left h]
/-- Element i of a list that is laid out element by element. -/
theorem flat_get {α : Type} {enc : α → List Value} {m : Nat} (hm : ∀ x, (enc x).length = m) : ∀ (q : List α) (i j : Nat) (x : α), q[i]? = some x → j < m → (q.flatMap enc)[i * m + j]? = (enc x)[j]?
  | [], i, j, x, h, _ => by simp at h
  | y :: q, 0, j, x, h, hj => by
    simp only [List.getElem?_cons_zero, Option.some.injEq] at h
    subst h
    rw [List.flatMap_cons, Nat.zero_mul, Nat.zero_add, List.getElem?_append_left (by rw [hm]; exact hj)]
  | y :: q, i + 1, j, x, h, hj => by
    rw [List.flatMap_cons, List.getElem?_append_right (by rw [hm, Nat.add_mul]; omega), hm, show (i + 1) * m + j - m = i * m + j by rw [Nat.add_mul]; omega]
    exact flat_get hm q i j x (by simpa using h) hj
theorem flat_len {α : Type} {enc : α → List Value} {m : Nat} (hm : ∀ x, (enc x).length = m) : ∀ (q : List α), (q.flatMap enc).length = q.length * m
  | [] => by simp
  | y :: q => by rw [List.flatMap_cons, List.length_append, hm, flat_len hm q, List.length_cons, Nat.add_mul]; omega
theorem Rd.elem {α : Type} {enc : α → List Value} {m : Nat} (hm : ∀ x, (enc x).length = m) {b : Nat} {pre post : List Value} {q : List α} {t : TypeId} [h : Look P b (pre ++ q.flatMap enc ++ post) t R] {i j : Nat} {x : α} {v : Value} (hx : q[i]? = some x) (hj : (enc x)[j]? = some v) :
    Rd P b (pre.length + i * m + j) v := by
  have hjm : j < m := by
    rcases Nat.lt_or_ge j (enc x).length with h | h
    · rw [← hm x]; exact h
    · rw [List.getElem?_eq_none h] at hj; cases hj
  have hi : i < q.length := by
    rcases Nat.lt_or_ge i q.length with h | h
    · exact h
    · rw [List.getElem?_eq_none h] at hx; cases hx
  refine Rd.look (l := pre ++ q.flatMap enc ++ post) ?_
  rw [Nat.add_assoc, mid_get _ _ _ _ (by
    rw [flat_len hm]
    have : (i + 1) * m ≤ q.length * m := Nat.mul_le_mul_right _ (by omega)
    rw [Nat.add_mul] at this
    omega), flat_get hm q i j x hx hjm, hj]
/-! ### append -/
/-- The cells that stand behind a slice value of k elements. -/
def Src (P : HProp) (y : Value) (k : Nat) (news : List Value) : Prop :=
  (y = .slice none 0 0 ∧ k = 0 ∧ news = []) ∨ ∃ b o c, y = .slice (some (ad b o)) k c ∧ ∀ j u, news[j]? = some u → Rd P b (o + j) u
theorem run_append {t e m B len k : Nat} {ty : TypeId} {zs l news : List Value} {v y : Value} [Slc prog t e m] [Zer prog e zs] [Byt prog e B] (hzl : zs.length = m) (hm : 0 < m) {w : World} (hs : Sat σ w (sep (Own e m v len l) (P)))
    (hsrc : Src (sep (Own e m v len l) (P)) y k news) (hl : news.length = k * m) (h1 : ∀ u ∈ news, u.oneCell' = true) (h63 : len + k ≤ maxLen) (hB : (len + k) * B ≤ 140737488355328) :
    ∃ A c w', (Builtin.append_ #[t, t] ty #[v, y]).run prog w = .ok (.slice A (len + k) c) w' ∧ Sat σ w' (sep (Own e m (.slice A (len + k) c) (len + k) (l ++ news)) (P)) := by
  suffices hh : ∃ v' w', (Builtin.append_ #[t, t] ty #[v, y]).run prog w = .ok v' w' ∧ Sat σ w' (sep (Own e m v' (len + k) (l ++ news)) (P)) by
    obtain ⟨v', w', h1, h2⟩ := hh
    obtain ⟨A, c, rfl, _⟩ := own_val h2
    exact ⟨A, c, w', h1, h2⟩
  obtain ⟨ht, i, hi, hsz⟩ := Slc.spec (prog := prog) t e m
  obtain ⟨i', z, hi', hz, hzc⟩ := Zer.spec (prog := prog) e zs
  obtain rfl : i = i' := Option.some.inj (hi.symm.trans hi')
  obtain ⟨i', hi'', hb⟩ := Byt.spec (prog := prog) e B
  obtain rfl : i = i' := Option.some.inj (hi.symm.trans hi'')
  have hzsz : z.cells.size = m := by rw [← Array.length_toList, hzc, hzl]
  have hsmall : len + k ≤ 9223372036854775807 := by simp only [maxLen] at h63; omega
  -- a new array
  have fresh : ∀ (P' : HProp), Sat σ w P' → ∀ (olds : List Value) (old : Nat), olds.length = len * m → old < len + k →
      Sat σ (w.drew.alloc (.cells (olds.toArray ++ news.toArray ++ Builtin.zeroCells z.cells (grownCap w (len + k) old e - (len + k))) e))
        (sep (Own e m (.slice (some ⟨w.heap.size, 0, none⟩) (len + k) (grownCap w (len + k) old e)) (len + k) (olds ++ news)) (P')) := by
    intro P' hP' olds old ho _
    have hge := grownCap_ge w (len + k) old e
    have hle := grownCap_le_maxLen w (len + k) old e h63
    have h2 := hP'.drew.alloc (.cells (olds.toArray ++ news.toArray ++ Builtin.zeroCells z.cells (grownCap w (len + k) old e - (len + k))) e)
    have e1 : (olds.toArray ++ news.toArray ++ Builtin.zeroCells z.cells (grownCap w (len + k) old e - (len + k))) = ([] ++ (olds ++ news) ++ (Builtin.zeroCells z.cells (grownCap w (len + k) old e - (len + k))).toList).toArray := by
      apply Array.toList_inj.1; simp
    rw [e1] at h2 ⊢
    refine h2.ent (Ent.frame (Own.mk rfl hge hle (by rw [List.length_append, ho, hl, Nat.add_mul]) ?_) P')
    rw [Array.length_toList, size_zeroCells, hzsz]
    exact Nat.le_refl _
  rcases sat_own hs with ⟨rfl, rfl, rfl, hP⟩ | ⟨b, cap, pre, post, rfl, hc1, hc2, hc3, hc4, hP⟩
  · rcases hsrc with ⟨rfl, rfl, rfl⟩ | ⟨sb, so, c, rfl, hr⟩
    · refine ⟨.slice none 0 0, w, ?_, hs⟩
      simp [Builtin.append_, run_und' ht, run_sizeOf' hi, Builtin.lenOf, Builtin.firstCells]
    · by_cases hk : k = 0
      · subst hk
        have hn : news = [] := List.eq_nil_of_length_eq_zero (by simpa using hl)
        subst hn
        refine ⟨.slice none 0 0, w, ?_, hs⟩
        simp [Builtin.append_, run_und' ht, run_sizeOf' hi, Builtin.lenOf, Builtin.firstCells, loadCells, loadCellsFrom]
      · have hr' := run_append_nil (P := prog) w t ty e i z ht hi hz (ad sb so) k c news (by rw [hl, hsz]) (fun j u hj => by rw [ad_add]; exact hr j u hj σ w hs) (by omega) (by omega) (by rw [hb]; have := hB; simp only [Nat.zero_add] at this; omega)
        refine ⟨_, _, hr', ?_⟩
        have := fresh P hP [] 0 (by simp) (by omega)
        simpa using this
  · have hold : ∀ j u, l[j]? = some u → w.cell? ((ad b pre.length).add j) = some u := fun j u hj => by
      have hjl : j < l.length := by
        rcases Nat.lt_or_ge j l.length with h | h
        · exact h
        · rw [List.getElem?_eq_none h] at hj; cases hj
      rw [ad_add, cell_of_cel hP, mid_get _ _ _ _ hjl, hj]
    rcases hsrc with ⟨rfl, rfl, rfl⟩ | ⟨sb, so, c, rfl, hr⟩
    · refine ⟨_, w, ?_, by simpa using hs⟩
      simp [Builtin.append_, run_und' ht, run_sizeOf' hi, Builtin.lenOf, Builtin.firstCells, hc1, storeCells]
    · by_cases hroom : len + k ≤ cap
      · have hfc := run_firstCells_some (P := prog) w m k (ad sb so) k c news hl (fun j u hj => by rw [ad_add]; exact hr j u hj σ w hs)
        have hlen : (pre ++ l ++ post).length = pre.length + len * m + post.length := by simp [hc3]; omega
        have hfit : pre.length + len * m + 0 + news.length ≤ (pre ++ l ++ post).toArray.size := by
          rw [List.size_toArray, hlen, hl]
          have : k * m ≤ (cap - len) * m := Nat.mul_le_mul_right _ (by omega)
          omega
        have hst := run_storeCells_at prog b (pre.length + len * m) e news 0 (pre ++ l ++ post).toArray w hP.blk hfit h1
        simp only [Nat.add_zero] at hst
        have e2 : (pre ++ l ++ post).take (pre.length + len * m) ++ news ++ (pre ++ l ++ post).drop (pre.length + len * m + news.length) = pre ++ (l ++ news) ++ post.drop news.length := by
          have a1 : (pre ++ l ++ post).take (pre.length + len * m) = pre ++ l := List.take_left' (by simp [hc3])
          have a2 : (pre ++ l ++ post).drop (pre.length + len * m + news.length) = post.drop news.length := by
            rw [← List.drop_drop, List.drop_left' (by simp [hc3])]
          rw [a1, a2]; simp
        have hst' : (storeCells ((ad b pre.length).add (len * m)) news 0).run prog w = .ok () (w.setRow b (pre ++ (l ++ news) ++ post.drop news.length).toArray) := by
          rw [ad_add, ← e2]; exact hst
        have h5 : Sat σ (w.setRow b (pre ++ (l ++ news) ++ post.drop news.length).toArray) (sep (cel b (pre ++ (l ++ news) ++ post.drop news.length) e) (P)) := setRow_sat hP
        refine ⟨.slice (some (ad b pre.length)) (len + k) cap, w.setRow b (pre ++ (l ++ news) ++ post.drop news.length).toArray, ?_, ?_⟩
        · simp only [Builtin.append_, List.getElem?_toArray, List.getElem?_cons_zero, List.getElem?_cons_succ, Sem.run_bind, run_und' ht, Result.andThen_ok, run_sizeOf' hi, Sem.run_pure, Builtin.lenOf, hsz, hroom, if_true, hfc, hst', Sem.run_ite, Bool.false_eq_true, if_false, Bool.not_false]
        · refine h5.ent (Ent.frame (Own.mk rfl hroom hc2 (by rw [List.length_append, hc3, hl, Nat.add_mul]) ?_) P)
          rw [List.length_drop, hl, show cap - (len + k) = (cap - len) - k by omega, Nat.sub_mul]
          omega
      · have hr' := run_append_grow (P := prog) w t ty e i z ht hi hz (ad b pre.length) len cap l (by rw [hc3, hsz]) hold (ad sb so) k c news (by rw [hl, hsz]) (fun j u hj => by rw [ad_add]; exact hr j u hj σ w hs) (by omega) (by omega) (growslice_fits (by omega) (by rw [hb]; exact hB))
        exact ⟨_, _, hr', fresh P hP.drop l cap hc3 (by omega)⟩
/-- The slice v is among what P owns. -/
class FOwn (P : HProp) (e m : Nat) (v : Value) (len : outParam Nat) (l : outParam (List Value)) (R : outParam HProp) : Prop where
  eq : P = (sep (Own e m v len l) (R))
instance (priority := 100) {A P R : HProp} {e m len : Nat} {v : Value} {l : List Value} [h : FOwn P e m v len l R] : FOwn (sep (A) (P)) e m v len l (sep (A) (R)) := ⟨by rw [h.eq, sep_left_comm]⟩
instance (priority := 200) {e m len : Nat} {v : Value} {l : List Value} {R : HProp} : FOwn (sep (Own e m v len l) (R)) e m v len l R := ⟨rfl⟩
theorem Src.lit {b : Nat} {l : List Value} {te : TypeId} {k c : Nat} [Look P b l te R] : Src P (.slice (some (ad b 0)) k c) k l := .inr ⟨b, 0, c, rfl, fun j u h => by rw [Nat.zero_add]; exact Rd.look h⟩
theorem opx_append {d : Nat} {x y : Operand} {t e m B len k : Nat} {ty : TypeId} {pos : String} {aft : Array Edge} {g : Option (Nat × Bool)} {zs l news : List Value} {v u : Value} [Slc prog t e m] [Zer prog e zs] [Byt prog e B] (hx : ev E x = some v) (hy : ev E y = some u) [hT : FOwn P e m v len l R]
    (hsrc : Src (sep (Own e m v len l) (R)) u k news) (hzl : zs.length = m) (hm : 0 < m) (hl : news.length = k * m) (h1 : ∀ u ∈ news, u.oneCell' = true) (h63 : len + k ≤ maxLen) (hB : (len + k) * B ≤ 140737488355328) (hd : Nat.blt d n = true) :
    OpX prog σ n E P ⟨some d, .call ⟨.builtin .append, #[x, y], #[t, t]⟩, ty, pos, aft, g⟩ (fun _ : Option Addr × Nat => True) (fun r => (d, .slice r.1 (len + k) r.2) :: E) (fun r => (sep (Own e m (.slice r.1 (len + k) r.2) (len + k) (l ++ news)) (R))) := by
  refine OpX.of_run rfl hd fun a w ha hw => ?_
  rw [hT.eq] at hw
  obtain ⟨A, c, w', hr, hs'⟩ := run_append (prog := prog) (t := t) (ty := ty) hzl hm hw hsrc hl h1 h63 hB
  refine ⟨(A, c), w', trivial, ?_, hs'⟩
  simp only [execOp, resolve, List.map_toArray, List.map_cons, List.map_nil, ha.ev hx, ha.ev hy, Sem.run_bind, Sem.run_pure, Result.andThen_ok, invoke, builtin, hr]
/-- A struct that lies whole in a block of one's own. -/
theorem opv_loadS {d : Option Tmp} {ty : TypeId} {pos : String} {aft : Array Edge} {g : Option (Nat × Bool)} {x : Operand} {t b o m : Nat} {l vs : List Value} {te : TypeId} [Agg prog t m] (hx : ev E x = some (.pointer (some (ad b o)))) [Look P b l te R] [hc : CutL l o m vs] :
    OpV prog σ n E P ⟨d, .load t x, ty, pos, aft, g⟩ (.agg vs.toArray) := opv_loadN hx hc.le fun j u hj => Rd.look (by
  rw [← hc.eq] at hj
  rw [List.getElem?_take] at hj
  split at hj
  · rw [List.getElem?_drop] at hj; exact hj
  · cases hj)
end Go.SLA
namespace Go.SLA
open Go.ChangeShapes Go.WideShapes Go.Deep
/-! ### Types without anything behind a pointer -/
inductive CK where
  | int (k : IntKind)
  | bool
  | str
def CK.ok : CK → Value → Prop
  | .int k, v => ∃ n, v = .int k n ∧ (Lit.int k n).wf = true
  | .bool, v => ∃ b, v = .bool b
  | .str, v => ∃ s : ByteArray, v = .string s ∧ s.size ≤ maxLen
def flatFs (P : Program) (g : TypeId → Option (List CK)) : List Field → Nat → Option (List CK)
  | [], _ => some []
  | f :: fs, off => match g f.type with
    | some k => if f.offset = off ∧ P.cellsOf f.type = k.length then (flatFs P g fs (off + k.length)).map (k ++ ·) else none
    | none => none
/-- The kinds of the cells of a type's values. -/
def flatK (P : Program) : Nat → TypeId → Option (List CK)
  | 0, _ => none
  | d + 1, t => match P.underlying t with
    | some (.int k) => some [.int k]
    | some .bool => some [.bool]
    | some .string => some [.str]
    | some (.struct fs) => match flatFs P (flatK P d) fs.toList 0 with
      | some ks => if P.cellsOf t = ks.length then some ks else none
      | none => none
    | some (.array n e) => match flatK P d e with
      | some k => if P.cellsOf e = k.length ∧ P.cellsOf t = n * k.length then some (List.replicate n k).flatten else none
      | none => none
    | _ => none
def Kinds (ks : List CK) (cs : List Value) : Prop := cs.length = ks.length ∧ ∀ (j : Nat) (k : CK), ks[j]? = some k → ∃ v, cs[j]? = some v ∧ k.ok v
theorem Kinds.append {k1 k2 : List CK} {c1 c2 : List Value} (h1 : Kinds k1 c1) (h2 : Kinds k2 c2) : Kinds (k1 ++ k2) (c1 ++ c2) := by
  refine ⟨by simp [h1.1, h2.1], fun j k hj => ?_⟩
  by_cases h : j < k1.length
  · rw [List.getElem?_append_left h] at hj
    rw [List.getElem?_append_left (by rw [h1.1]; exact h)]
    exact h1.2 j k hj
  · rw [List.getElem?_append_right (by omega)] at hj
    rw [List.getElem?_append_right (by rw [h1.1]; omega), h1.1]
    exact h2.2 _ k hj
theorem Kinds.nil : Kinds [] [] := ⟨rfl, fun j k h => by simp at h⟩
section
variable {H : Type} {enc : TypeId × Value → H} {P : Program} {w : World} {base : Nat} {spare : Nat → Bool} {held : Bool}
theorem flatFs_ok {g : TypeId → Option (List CK)} {n : Nat} {cs : List Value}
    (hg : ∀ t ks cs x, g t = some ks → DataW.trod enc P w base spare held n t cs = some x → Kinds ks cs) :
    ∀ (fs : List Field) (off : Nat) (ks : List CK), flatFs P g fs off = some ks → off + ks.length ≤ cs.length →
      (∀ f ∈ fs, ∃ x, DataW.trod enc P w base spare held n f.type ((cs.drop f.offset).take (P.cellsOf f.type)) = some x) → Kinds ks ((cs.drop off).take ks.length)
  | [], off, ks, h, _, _ => by simp only [flatFs, Option.some.injEq] at h; subst h; simpa using Kinds.nil
  | f :: fs, off, ks, h, hl, hx => by
    simp only [flatFs] at h
    split at h
    · rename_i k hk
      split at h
      · rename_i hc
        cases hr : flatFs P g fs (off + k.length) with
        | none => simp [hr] at h
        | some ks' =>
          simp only [hr, Option.map_some, Option.some.injEq] at h
          subst h
          simp only [List.length_append] at hl
          obtain ⟨x, hx1⟩ := hx f (by simp)
          have h1 := hg _ _ _ _ hk hx1
          rw [hc.1, hc.2] at h1
          have h2 := flatFs_ok hg fs (off + k.length) ks' hr (by omega) (fun f hf => hx f (by simp [hf]))
          have := h1.append h2
          have e : (cs.drop off).take k.length ++ (cs.drop (off + k.length)).take ks'.length = (cs.drop off).take (k ++ ks').length := by
            rw [List.length_append, List.take_add, List.drop_drop]
          rw [e] at this
          exact this
      · cases h
    · cases h
theorem flat_ok : ∀ (d : Nat) (t : TypeId) (ks : List CK) (fuel : Nat) (cs : List Value) (x : DataW H × List MemPlace), flatK P d t = some ks → DataW.trod enc P w base spare held fuel t cs = some x → Kinds ks cs
  | 0, _, _, _, _, _, h, _ => by simp [flatK] at h
  | d + 1, t, ks, fuel, cs, x, h, ht => by
    simp only [flatK] at h
    split at h
    · rename_i k hu
      simp only [Option.some.injEq] at h; subst h
      obtain ⟨n, rfl, _, hw⟩ := DataW.trod_int hu ht
      exact ⟨rfl, fun j k' hj => by cases j with
        | zero => simp at hj; subst hj; exact ⟨_, rfl, n, rfl, hw⟩
        | succ j => simp at hj⟩
    · rename_i hu
      simp only [Option.some.injEq] at h; subst h
      obtain ⟨b, rfl, _⟩ := DataW.trod_bool hu ht
      exact ⟨rfl, fun j k' hj => by cases j with
        | zero => simp at hj; subst hj; exact ⟨_, rfl, b, rfl⟩
        | succ j => simp at hj⟩
    · rename_i hu
      simp only [Option.some.injEq] at h; subst h
      obtain ⟨s, rfl, _, hw⟩ := DataW.trod_string hu ht
      exact ⟨rfl, fun j k' hj => by cases j with
        | zero => simp at hj; subst hj; exact ⟨_, rfl, s, rfl, hw⟩
        | succ j => simp at hj⟩
    · rename_i fs hu
      split at h
      · rename_i ks' hks
        split at h
        · rename_i hlen
          simp only [Option.some.injEq] at h; subst h
          obtain ⟨xs, n, rfl, rfl, hl, hxl, hf⟩ := DataW.trod_struct hu ht
          have := flatFs_ok (g := flatK P d) (n := n) (cs := cs) (fun t ks cs x h1 h2 => flat_ok d t ks n cs x h1 h2) fs.toList 0 ks' hks (by omega) (fun f hf' => by
            obtain ⟨i, hi⟩ := List.getElem?_of_mem hf'
            rw [Array.getElem?_toList] at hi
            have hlt : i < xs.length := by rw [hxl]; exact (Array.getElem?_eq_some_iff.1 hi).1
            exact ⟨xs[i], by rw [hf i f hi, List.getElem?_eq_getElem hlt]⟩)
          simp only [List.drop_zero] at this
          rwa [List.take_of_length_le (by omega)] at this
        · cases h
      · cases h
    · rename_i n e hu
      split at h
      · rename_i k hk
        split at h
        · rename_i hc
          simp only [Option.some.injEq] at h; subst h
          obtain ⟨xs, m, rfl, rfl, hl, hxl, hf⟩ := DataW.trod_array hu ht
          have key : ∀ i, i ≤ n → Kinds (List.replicate i k).flatten (cs.take (i * k.length)) := by
            intro i
            induction i with
            | zero => intro _; simpa using Kinds.nil
            | succ i ih =>
              intro hi
              have h1 := ih (by omega)
              have h2 := hf i (by omega)
              rw [hc.1, List.getElem?_eq_getElem (show i < xs.length by omega)] at h2
              have h3 := h1.append (flat_ok d e k m _ _ hk h2)
              rw [List.replicate_succ', List.flatten_concat, Nat.add_mul, Nat.one_mul, List.take_add]
              exact h3
          have := key n (Nat.le_refl _)
          rwa [List.take_of_length_le (by omega)] at this
        · cases h
      · cases h
    · cases h
/-- An argument of such a type that is a struct or an array. -/
theorem open_flat {r : Reach} {b0 : Nat} {t : TypeId} {v : Value} {d : DataW H} {p : List MemPlace} {D : Nat} {ks : List CK} (hk : flatK P D t = some ks) (ha : undB P t isAggD = true) (hv : Value.okWide P w r b0 t v) (h : DataW.Trod enc P w base spare held t v d p) :
    ∃ l : List Value, v = .agg l.toArray ∧ Kinds ks l := by
  obtain ⟨fuel, hf⟩ := h
  have h1 := flat_ok D t ks fuel _ _ hk hf
  obtain ⟨dd, hd, hb⟩ := undB_spec ha
  have : ∃ cs, v = .agg cs := by
    simp only [Value.okWide, hd] at hv
    unfold isAggD at hb
    split at hb
    · obtain ⟨cs, h1, _⟩ := hv; exact ⟨cs, h1⟩
    · obtain ⟨cs, h1, _⟩ := hv; exact ⟨cs, h1⟩
    · cases hb
  obtain ⟨cs, rfl⟩ := this
  exact ⟨cs.toList, by simp, h1⟩
end
/-- From a law's contract to what its row asks of the call. -/
theorem FSpec.law {prog : Program} {f : FuncId} {args : Array Value} {W : World} (h : FSpec prog f args (old W) (fun _ : Unit => True) (fun _ => .bool true) (fun _ => old W)) :
    Calls prog f args W fun e w' => e = .returned (.bool true) ∧ Go.RowKit.Below W.heap.size W w' :=
  (h W W emp (Sat.start W)).mono fun e w' ⟨_, _, he, hs⟩ => ⟨he, hs.below⟩
variable {P R : HProp} {w0 : World}
theorem Rd.of_take {S : HProp} [h : Take P S R] {b o : Nat} {v : Value} (hv : Rd S b o v) : Rd P b o v := fun σ w hs => by
  rw [h.eq] at hs
  exact hv σ w hs.left
/-- A slice that can be read where S holds. -/
structure RdS (S : HProp) {α : Type} (en : α → List Value) (m : Nat) (A : Option Addr) (xs : List α) : Prop where
  nonnil : ∀ k : Nat, k < xs.length → ∃ b o, A = some (ad b o)
  rd : ∀ b o, A = some (ad b o) → ∀ i x j u, xs[i]? = some x → (en x)[j]? = some u → Rd S b (o + i * m + j) u
theorem own_nonnil {σ w : World} {e m len : Nat} {A : Option Addr} {c : Nat} {l : List Value} (h : Sat σ w (sep (Own e m (.slice A len c) len l) (P))) : (A = none ∧ c = 0 ∧ len = 0 ∧ l = []) ∨ ∃ b o, A = some (ad b o) := by
  rcases sat_own h with ⟨h1, h2, h3, _⟩ | ⟨b, cap, pre, post, h1, _⟩
  · simp only [Value.slice.injEq] at h1
    exact .inl ⟨h1.1, h1.2.2, h2, h3⟩
  · simp only [Value.slice.injEq] at h1
    exact .inr ⟨_, _, h1.1⟩
theorem Rd.own {e m len b o : Nat} {c : Nat} {l : List Value} {j : Nat} {u : Value} (h : l[j]? = some u) : Rd (Own e m (.slice (some (ad b o)) len c) len l) b (o + j) u := fun σ w hs => by
  have hs' : Sat σ w (sep (Own e m (.slice (some (ad b o)) len c) len l) (emp)) := by rw [sep_emp]; exact hs
  rcases sat_own hs' with ⟨h1, _⟩ | ⟨b', cap, pre, post, h1, _, _, _, _, h6⟩
  · cases h1
  · simp only [Value.slice.injEq, Option.some.injEq, Addr.mk.injEq] at h1
    obtain ⟨⟨rfl, rfl, _⟩, _, _⟩ := h1
    have hj : j < l.length := by
      rcases Nat.lt_or_ge j l.length with h | h
      · exact h
      · rw [List.getElem?_eq_none h] at *; contradiction
    rw [cell_of_cel h6, mid_get _ _ _ _ hj, h]
/-- A slice of one's own can be read, element by element. -/
theorem RdS.own {α : Type} {en : α → List Value} {m e c : Nat} {A : Option Addr} {xs : List α} (hm : ∀ x, (en x).length = m) (hA : xs = [] ∨ ∃ b o, A = some (ad b o)) : RdS (Own e m (.slice A xs.length c) xs.length (xs.flatMap en)) en m A xs := by
  refine ⟨fun k hk => ?_, fun b o e i x j u hi hj => ?_⟩
  · rcases hA with rfl | h
    · simp at hk
    · exact h
  · subst e
    have hjm : j < m := by
      rcases Nat.lt_or_ge j (en x).length with h | h
      · rw [← hm x]; exact h
      · rw [List.getElem?_eq_none h] at hj; cases hj
    rw [Nat.add_assoc]
    exact Rd.own (by rw [flat_get hm xs i j x hi hjm, hj])
end Go.SLA
