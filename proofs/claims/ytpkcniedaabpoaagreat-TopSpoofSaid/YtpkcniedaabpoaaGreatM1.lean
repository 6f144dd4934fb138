/- Rules of a separation logic over the model, and what functions of the translation do; used by the texts that import this one. -/
import Derived.WalkKit
import Derived.Deep.Quiet
import Derived.OrdersHeld
import Derived.ProofKit
import Derived.OpenShut
import Derived.ShutString
import Derived.ChangeOld
import Derived.SizedLaws
import Derived.Deep.Slices
set_option linter.unusedVariables false
set_option linter.unusedSimpArgs false
namespace Go.SLA
section
variable {X : Type} {b : Nat} {o : Obj} {w' w0 : World}
abbrev Heap := Nat -> Option Obj
def ab := Heap -> Prop
def bW (h1 h2 : Heap) : Heap := fun b => (h1 b).or (h2 b)
def Heap.apart (h1 h2 : Heap) : Prop := ∀ b, h1 b = none \/ h2 b = none
def aa (P Q : ab) : ab := fun h => ∃ h1 h2, Heap.apart h1 h2 /\ h = bW h1 h2 /\ P h1 /\ Q h2
def emp : ab := fun h => h = fun _ => none
def blk (b : Nat) (o : Obj) : ab := fun h => h = fun k => if k = b then some o else none
def lift (p : Prop) : ab := fun h => p /\ h = fun _ => none
def ex (f : X -> ab) : ab := fun h => ∃ x, f x h
def old (w0 : World) : ab := fun h => h = fun k => if k < w0.heap.size then w0.heap[k]? else none
theorem oB {h1 h2 : Heap} (h : Heap.apart h1 h2) : bW h1 h2 = bW h2 h1 := by
 funext b
 unfold bW
 rcases h b with h | h <;> simp [h]
theorem nc {h1 h2 : Heap} (h : Heap.apart h1 h2) : Heap.apart h2 h1 := fun b => (h b).symm
theorem cd (P Q : ab) : aa P Q = aa Q P := by
 have key : ∀ P Q : ab, ∀ h, aa P Q h -> aa Q P h := by
  rintro P Q h ⟨h1, h2, ha, rfl, hp, hq⟩
  exact ⟨h2, h1, nc ha, oB ha, hq, hp⟩
 funext h
 exact propext ⟨key P Q h, key Q P h⟩
theorem kK (P Q R : ab) (h : Heap) (hh : aa (aa P Q) R h) : aa P (aa Q R) h := by
 obtain ⟨h12, h3, ha, rfl, ⟨h1, h2, hb, rfl, hp, hq⟩, hr⟩ := hh
 have key : ∀ b, (h1 b = none /\ h2 b = none) \/ h3 b = none := fun b => by
  rcases ha b with h | h
  ·left; revert h; simp only [bW]; cases h1 b <;> cases h2 b <;> simp
  ·exact .inr h
 refine ⟨h1, bW h2 h3, fun b => ?_, ?_, hp, h2, h3, fun b => ?_, rfl, hq, hr⟩
 ·rcases key b with ⟨h, _⟩ | h
  ·exact .inl h
  ·rcases hb b with h' | h'
   ·exact .inl h'
   ·right; simp [bW, h, h']
 ·funext b; simp only [bW]; cases h1 b <;> simp
 ·rcases key b with ⟨_, h⟩ | h
  ·exact .inl h
  ·exact .inr h
theorem ak (P Q R : ab) : aa (aa P Q) R = aa P (aa Q R) := by
 funext h
 refine propext ⟨kK P Q R h, fun hh => ?_⟩
 rw [cd] at hh
 have h1 := kK Q R P h hh
 rw [cd] at h1
 have h2 := kK R P Q h h1
 rw [cd] at h2
 exact h2
instance : Std.Associative aa := ⟨ak⟩
instance : Std.Commutative aa := ⟨cd⟩
theorem aR (P Q R : ab) : aa P (aa Q R) = aa Q (aa P R) := by
 rw [<- ak, cd P Q, ak]
theorem bN (P : ab) : aa emp P = P := by
 funext h
 refine propext ⟨?_, fun hp => ⟨fun _ => none, h, fun b => .inl rfl, by funext b; simp [bW], rfl, hp⟩⟩
 rintro ⟨h1, h2, _, rfl, rfl, hp⟩
 have : bW (fun _ => none) h2 = h2 := by funext b; simp [bW]
 rw [this]; exact hp
theorem cR (P : ab) : aa P emp = P := by rw [cd, bN]
theorem vf (P : ab) : aa (lift True) P = P := by
 have : lift True = emp := by funext h; simp [lift, emp]
 rw [this, bN]
structure Sat (σ w : World) (P : ab) : Prop where
 os : w.os = σ.os
 tape : w.tape = σ.tape
 output : w.output = σ.output
 heap : ∃ h, P h /\ ∀ b o, h b = some o -> w.heap[b]? = some o
variable {σ w : World} {P Q R F : ab}
theorem Sat.imp (h : Sat σ w P) (hpq : ∀ h, P h -> Q h) : Sat σ w Q :=
 ⟨h.os, h.tape, h.output, let ⟨h1, hp, hh⟩ := h.heap; ⟨h1, hpq _ hp, hh⟩⟩
theorem Sat.drop (h : Sat σ w (aa (P) (Q))) : Sat σ w Q := by
 obtain ⟨h1, ⟨ha, hb, hd, rfl, hp, hq⟩, hh⟩ := h.heap
 refine ⟨h.os, h.tape, h.output, hb, hq, fun b o hbo => hh b o ?_⟩
 rcases hd b with h' | h'
 ·simp [bW, h', hbo]
 ·simp [h'] at hbo
theorem Sat.left (h : Sat σ w (aa (P) (Q))) : Sat σ w P := by rw [cd] at h; exact h.drop
theorem sat_lift {p : Prop} : Sat σ w (aa (lift p) (P)) ↔ p /\ Sat σ w P := by
 constructor
 ·intro h
  refine ⟨?_, h.drop⟩
  obtain ⟨h1, ⟨ha, hb, _, _, hp, _⟩, _⟩ := h.heap
  exact hp.1
 ·rintro ⟨hp, h⟩
  have : lift p = emp := by funext h; simp [lift, emp, hp]
  rw [this, bN]; exact h
theorem sat_ex {f : X -> ab} : Sat σ w (aa (ex f) (P)) ↔ ∃ x, Sat σ w (aa (f x) (P)) := by
 constructor
 ·intro h
  obtain ⟨h1, ⟨ha, hb, hd, rfl, ⟨x, hx⟩, hp⟩, hh⟩ := h.heap
  exact ⟨x, h.os, h.tape, h.output, _, ⟨ha, hb, hd, rfl, hx, hp⟩, hh⟩
 ·rintro ⟨x, h⟩
  obtain ⟨h1, ⟨ha, hb, hd, rfl, hx, hp⟩, hh⟩ := h.heap
  exact ⟨h.os, h.tape, h.output, _, ⟨ha, hb, hd, rfl, ⟨x, hx⟩, hp⟩, hh⟩
theorem Sat.blk (h : Sat σ w (aa (SLA.blk b o) (P))) : w.heap[b]? = some o := by
 obtain ⟨h1, ⟨ha, hb, hd, rfl, hp, hq⟩, hh⟩ := h.heap
 exact hh b o (by rw [show ha = fun k => if k = b then some o else none from hp]; simp [bW])
theorem Sat.update {o' : Obj} (h : Sat σ w (aa (SLA.blk b o) (P))) (h1 : w'.os = w.os) (h2 : w'.tape = w.tape) (h3 : w'.output = w.output)
  (hn : w'.heap[b]? = some o') (ho : ∀ k, k ≠ b -> w'.heap[k]? = w.heap[k]?) : Sat σ w' (aa (SLA.blk b o') (P)) := by
 obtain ⟨hx, ⟨ha, hb, hd, rfl, hp, hq⟩, hh⟩ := h.heap
 refine ⟨h1.trans h.os, h2.trans h.tape, h3.trans h.output, _, ⟨fun k => if k = b then some o' else none, hb, fun k => ?_, rfl, rfl, hq⟩, fun k u hk => ?_⟩
 ·rcases hd k with h' | h'
  ·rw [show ha = fun k => if k = b then some o else none from hp] at h'
   by_cases e : k = b
   ·simp [e] at h'
   ·simp [e]
  ·exact .inr h'
 ·by_cases e : k = b
  ·subst e
   simp [bW] at hk
   rw [hn, hk]
  ·simp [bW, e] at hk
   rw [ho k e]
   refine hh k u ?_
   rcases hd k with h' | h'
   ·simp [bW, h', hk]
   ·simp [h'] at hk
theorem Sat.new {w' : World} {o : Obj} (h : Sat σ w P) (h1 : w'.os = w.os) (h2 : w'.tape = w.tape) (h3 : w'.output = w.output)
  (hn : w'.heap[w.heap.size]? = some o) (ho : ∀ k, k < w.heap.size -> w'.heap[k]? = w.heap[k]?) : Sat σ w' (aa (SLA.blk w.heap.size o) (P)) := by
 obtain ⟨hx, hp, hh⟩ := h.heap
 have hlt : ∀ k u, hx k = some u -> k < w.heap.size := fun k u hk => by
  have := hh k u hk
  exact (Array.getElem?_eq_some_iff.1 this).1
 refine ⟨h1.trans h.os, h2.trans h.tape, h3.trans h.output, _, ⟨fun k => if k = w.heap.size then some o else none, hx, fun k => ?_, rfl, rfl, hp⟩, fun k u hk => ?_⟩
 ·by_cases e : k = w.heap.size
  ·right
   cases hk : hx k with
   | none => rfl
   | some u => have := hlt k u hk; omega
  ·simp [e]
 ·by_cases e : k = w.heap.size
  ·subst e
   simp [bW] at hk
   rw [hn, hk]
  ·simp [bW, e] at hk
   rw [ho k (hlt k u hk)]
   exact hh k u hk
theorem Sat.same (h : Sat σ w P) (h1 : w'.os = w.os) (h2 : w'.tape = w.tape) (h3 : w'.output = w.output)
  (ho : ∀ k, k < w.heap.size -> w'.heap[k]? = w.heap[k]?) : Sat σ w' P := by
 obtain ⟨hx, hp, hh⟩ := h.heap
 refine ⟨h1.trans h.os, h2.trans h.tape, h3.trans h.output, hx, hp, fun k u hk => ?_⟩
 have := hh k u hk
 rw [ho k (Array.getElem?_eq_some_iff.1 this).1]
 exact this
theorem Sat.drew (h : Sat σ w P) : Sat σ w.drew P := h.same rfl rfl rfl (fun _ _ => rfl)
theorem Sat.drawn (h : Sat σ w P) (n : Nat) : Sat σ { w with drawn := n } P := h.same rfl rfl rfl (fun _ _ => rfl)
theorem Sat.alloc (h : Sat σ w P) (o : Obj) : Sat σ (w.alloc o) (aa (SLA.blk w.heap.size o) (P)) :=
 h.new rfl rfl rfl (heap_alloc_new w o) (fun k hk => heap_alloc_old w o hk)
theorem Sat.old_block (h : Sat σ w (aa (old w0) (P))) : ∀ k, k < w0.heap.size -> w.heap[k]? = w0.heap[k]? := by
 intro k hk
 obtain ⟨h1, ⟨ha, hb, hd, rfl, hp, hq⟩, hh⟩ := h.heap
 have e : w0.heap[k]? = some w0.heap[k] := Array.getElem?_eq_getElem hk
 rw [e]
 refine hh k _ ?_
 rw [show ha = fun k => if k < w0.heap.size then w0.heap[k]? else none from hp]
 simp [bW, hk]
theorem vU (w : World) : Sat w w (aa (old w) (emp)) := by
 refine ⟨rfl, rfl, rfl, fun k => if k < w.heap.size then w.heap[k]? else none, ?_, fun b o hb => ?_⟩
 ·rw [cR]; rfl
 ·dsimp only at hb
  split at hb
  ·exact hb
  ·cases hb
open Go.RowKit in
theorem Sat.below (h : Sat w0 w (aa (old w0) (P))) : Below w0.heap.size w0 w := by
 refine ⟨h.os, h.tape, h.output, ?_, fun k hk => h.old_block k hk⟩
 by_cases e : w0.heap.size = 0
 ·omega
 ·have := h.old_block (w0.heap.size - 1) (by omega)
  rw [Array.getElem?_eq_getElem (show w0.heap.size - 1 < w0.heap.size by omega)] at this
  have := (Array.getElem?_eq_some_iff.1 this).1
  omega
end
section
variable {n id l : Nat} {a : Act} {v : Value} {P : ab} {p : Prop} {X : Type} {Q Q' : Exit -> Act -> World -> Prop} {c x y : Code} {fn : Func} {f : FuncId} {args : List Value} {t : Tmp} {φ : X -> Prop} {val : X -> Value} {Qo : X -> ab}
abbrev Env := List (Nat × Value)
def Env.get : List (Nat × Value) -> Nat -> Option Value
 | [], _ => none
 | (j, v) :: l, i => bif Nat.beq j i then some v else Env.get l i
structure Agree (n : Nat) (E : Env) (a : Act) : Prop where
 defers : a.defers = []
 size : a.tmps.size = n
 slot : ∀ i v, Env.get E i = some v -> a.tmps[i]? = some v
theorem jz (j : Nat) (v : Value) (E : Env) (i : Nat) : Env.get ((j, v) :: E) i = if j = i then some v else Env.get E i := by
 simp only [Env.get]
 by_cases h : j = i
 ·subst h; simp
 ·have : Nat.beq j i = false := by rw [Bool.eq_false_iff]; exact fun e => h (Nat.eq_of_beq_eq_true e)
  simp [this, h]
theorem Agree.put {E : Env} (h : Agree n E a) {d : Nat} (hd : d < n) (v : Value) : Agree n ((d, v) :: E) (a.put (some d) v) := by
 refine ⟨h.defers, by simp [Act.put, h.size], fun i u hi => ?_⟩
 rw [jz] at hi
 simp only [Act.put]
 by_cases e : d = i
 ·subst e
  simp at hi
  subst hi
  simp [h.size, hd]
 ·simp only [e, if_false] at hi
  rw [Array.getElem?_setIfInBounds_ne e]
  exact h.slot i u hi
def Sub : Env -> Env -> Prop
 | [], _ => True
 | (i, v) :: l, E => Env.get E i = some v /\ Sub l E
theorem Sub.get : ∀ {E' E : Env}, Sub E' E -> ∀ i v, Env.get E' i = some v -> Env.get E i = some v
 | [], _, _, i, v, h => by simp [Env.get] at h
 | (j, u) :: l, E, h, i, v, hi => by
  rw [jz] at hi
  by_cases e : j = i
  ·subst e
   simp at hi
   subst hi
   exact h.1
  ·simp only [e, if_false] at hi
   exact Sub.get h.2 i v hi
theorem Agree.sub {E E' : Env} (h : Agree n E a) (hs : Sub E' E) : Agree n E' a :=
 ⟨h.defers, h.size, fun i v hi => h.slot i v (hs.get i v hi)⟩
def ev (E : Env) : Operand -> Option Value
 | .tmp t => Env.get E t
 | .const v => some v
 | .global g => some (.pointer (some ⟨g, 0, none⟩))
 | .func f => some (.func (.func f) #[] #[])
def evl (E : Env) : List Operand -> Option (List Value)
 | [] => some []
 | x :: l => match ev E x, evl E l with
  | some v, some vs => some (v :: vs)
  | _, _ => none
theorem Agree.ev {E : Env} (h : Agree n E a) {x : Operand} (hx : ev E x = some v) : a.eval x = v := by
 cases x with
 | tmp t =>
  have := h.slot t v hx
  simp [Act.eval, Array.getD_eq_getD_getElem?, this]
 | const u => simpa [SLA.ev, Act.eval] using hx
 | global g => simpa [SLA.ev, Act.eval] using hx
 | func f => simpa [SLA.ev, Act.eval] using hx
theorem Agree.evl {n : Nat} {E : Env} {a : Act} (h : Agree n E a) : ∀ {l : List Operand} {vs : List Value}, evl E l = some vs -> l.map a.eval = vs
 | [], vs, hl => by simpa [SLA.evl] using hl
 | x :: l, vs, hl => by
  simp only [SLA.evl] at hl
  split at hl
  ·rename_i v us hv hus
   simp only [Option.some.injEq] at hl
   subst hl
   rw [List.map_cons, h.ev hv, h.evl hus]
  ·cases hl
def Ent (P Q : ab) : Prop := ∀ h, P h -> ∃ h', (∀ b o, h' b = some o -> h b = some o) /\ Q h'
theorem gl {Q : ab} (e : ∀ h, P h -> Q h) : Ent P Q := fun h hp => ⟨h, fun _ _ x => x, e h hp⟩
theorem Ent.of {Q : ab} (e : P = Q) : Ent P Q := gl fun _ h => e ▸ h
theorem ah (P : ab) : Ent P P := gl fun _ h => h
theorem Ent.trans {Q R : ab} (h : Ent P Q) (k : Ent Q R) : Ent P R := fun x hx =>
 let ⟨y, hy, hq⟩ := h x hx
 let ⟨z, hz, hr⟩ := k y hq
 ⟨z, fun b o e => hy b o (hz b o e), hr⟩
theorem Ent.frame {Q : ab} (h : Ent P Q) (R : ab) : Ent (aa (P) (R)) (aa (Q) (R)) := by
 rintro _ ⟨h1, h2, ha, rfl, hp, hr⟩
 obtain ⟨h1', hs, hq⟩ := h h1 hp
 have hn : ∀ b, h1 b = none -> h1' b = none := fun b e => by
  cases e' : h1' b with
  | none => rfl
  | some o => rw [hs b o e'] at e; cases e
 refine ⟨bW h1' h2, fun b o hb => ?_, h1', h2, fun b => (ha b).imp (hn b) id, rfl, hq, hr⟩
 simp only [bW] at hb ⊢
 cases e : h1' b with
 | none =>
  rw [e] at hb
  simp only [Option.none_or] at hb
  rcases ha b with h' | h'
  ·rw [h', Option.none_or, hb]
  ·rw [h'] at hb; cases hb
 | some u =>
  rw [e] at hb
  simp only [Option.some_or, Option.some.injEq] at hb
  rw [hs b u e, hb, Option.some_or]
theorem aw {Q : ab} (h : Ent P Q) (R : ab) : Ent (aa (R) (P)) (aa (R) (Q)) := by rw [cd R P, cd R Q]; exact h.frame R
theorem Ent.lift (h : p) : Ent P (aa (SLA.lift p) (P)) := by
 have : SLA.lift p = emp := by funext x; simp [SLA.lift, emp, h]
 rw [this, bN]; exact ah _
theorem Ent.ex {f : X -> ab} (x : X) : Ent (aa (f x) (P)) (aa (SLA.ex f) (P)) := gl fun _ ⟨h1, h2, ha, hj, hp, hr⟩ => ⟨h1, h2, ha, hj, ⟨x, hp⟩, hr⟩
theorem bh {f : X -> ab} (x : X) : Ent (f x) (SLA.ex f) := gl fun _ h => ⟨x, h⟩
theorem Ent.drop {Q : ab} : Ent (aa (P) (Q)) Q := by
 rintro _ ⟨h1, h2, ha, rfl, hp, hq⟩
 refine ⟨h2, fun b o hb => ?_, hq⟩
 rcases ha b with h | h
 ·simp [bW, h, hb]
 ·rw [h] at hb; cases hb
theorem Ent.left {Q : ab} : Ent (aa (P) (Q)) P := by rw [cd]; exact Ent.drop
theorem Sat.ent {σ w : World} {Q : ab} (h : Sat σ w P) (e : Ent P Q) : Sat σ w Q := by
 obtain ⟨h1, hp, hh⟩ := h.heap
 obtain ⟨h2, hs, hq⟩ := e h1 hp
 exact ⟨h.os, h.tape, h.output, h2, hq, fun b o hb => hh b o (hs b o hb)⟩
section
variable (prog : Program) (σ : World) (n : Nat)
def J (c : Code) (Q : Exit -> Act -> World -> Prop) (E : Env) (P : ab) : Prop := ∀ a w, Agree n E a -> Sat σ w P -> c.wp prog Q a w
def L (ops : Array Oper) (rest : List Oper) (Q : Exit -> Act -> World -> Prop) (E : Env) (P : ab) : Prop := ∀ a w, Agree n E a -> Sat σ w P -> wpList prog ops Q rest a w
def K (Q : Exit -> Act -> World -> Prop) (e : Exit) (E : Env) (P : ab) : Prop := ∀ a w, Agree n E a -> Sat σ w P -> Q e a w
end
class NP (Q : Exit -> Act -> World -> Prop) : Prop where
 no : ∀ c a w, ¬ Q (.panic c) a w
instance {R : Act -> World -> Prop} [NP Q] : NP (Exit.then R Q) := ⟨fun c a w h => NP.no (Q := Q) c a w h⟩
instance [NP Q] : NP (Exit.inBlock id Q) := ⟨fun c a w h => NP.no (Q := Q) c a w h⟩
variable {prog : Program} {σ : World} {n : Nat} {Q : Exit -> Act -> World -> Prop} {E E' : Env} {P P' R F : ab} {ops : Array Oper} {rest : List Oper}
theorem bb {x y : Code} (h : J prog σ n x (Exit.then (y.wp prog Q) Q) E P) : J prog σ n (.seq x y) Q E P := fun a w ha hs => wp_seq (h a w ha hs)
theorem ew (h : K σ n Q .normal E P) : J prog σ n .skip Q E P := fun a w ha hs => wp_skip (h a w ha hs)
theorem me (h : K σ n Q .ret E P) : J prog σ n .ret Q E P := fun a w ha hs => wp_ret (h a w ha hs)
theorem cx {id : Nat} (h : K σ n Q (.exit id) E P) : J prog σ n (.exit id) Q E P := fun a w ha hs => wp_exit (h a w ha hs)
theorem A6 (h : K σ n Q .normal E P) : J prog σ n (.label l) Q E P := fun a w ha hs => wp_label (h a w ha hs)
theorem yQ (h : K σ n Q (.goto l) E P) : J prog σ n (.goto l) Q E P := fun a w ha hs => wp_goto (h a w ha hs)
theorem dB {id : Nat} {c : Code} (h : J prog σ n c (Exit.inBlock id Q) E P) : J prog σ n (.block id c) Q E P := fun a w ha hs => wp_block (h a w ha hs)
theorem aJ {id : Nat} {l : List Oper} (h : L prog σ n l.toArray l Q E P) : J prog σ n (.region id l.toArray false) Q E P :=
 fun a w ha hs => wp_region_lit (h a w ha hs)
theorem aG {c : Operand} [Decidable p] (hc : ev E c = some (.bool (decide p))) (ht : p -> J prog σ n x Q E P) (hf : ¬ p -> J prog σ n y Q E P) :
  J prog σ n (.cond c x y) Q E P := fun a w ha hs =>
 wp_cond_split (ha.ev hc) (fun h => ht (of_decide_eq_true h) a w ha hs) (fun h => hf (of_decide_eq_false h) a w ha hs)
theorem dG {c : Operand} (hc : ev E c = some (.bool true)) (ht : J prog σ n x Q E P) : J prog σ n (.cond c x y) Q E P :=
 fun a w ha hs => wp_cond_true (ha.ev hc) (ht a w ha hs)
theorem dc {c : Operand} (hc : ev E c = some (.bool false)) (ht : J prog σ n y Q E P) : J prog σ n (.cond c x y) Q E P :=
 fun a w ha hs => wp_cond_false (ha.ev hc) (ht a w ha hs)
theorem gP {c : Operand} {b : Bool} (hc : ev E c = some (.bool b)) (ht : b = true -> J prog σ n x Q E P) (hf : b = false -> J prog σ n y Q E P) :
 J prog σ n (.cond c x y) Q E P := fun a w ha hs => wp_cond_split (ha.ev hc) (fun h => ht h a w ha hs) (fun h => hf h a w ha hs)
theorem dY (P' : ab) (e : P = P') (h : J prog σ n c Q E P') : J prog σ n c Q E P := e ▸ h
theorem ue (P' : ab) (e : P = P') (h : L prog σ n ops rest Q E P') : L prog σ n ops rest Q E P := e ▸ h
theorem fC (P' : ab) (e : Ent P P') (h : J prog σ n c Q E P') : J prog σ n c Q E P := fun a w ha hw => h a w ha (hw.ent e)
theorem uP (P' : ab) (e : Ent P P') (h : L prog σ n ops rest Q E P') : L prog σ n ops rest Q E P := fun a w ha hw => h a w ha (hw.ent e)
theorem yP {φ : Prop} (hk : ∀ w, Sat σ w P -> φ) (h : φ -> J prog σ n c Q E P) : J prog σ n c Q E P := fun a w ha hw => h (hk w hw) a w ha hw
theorem gh {f : X -> ab} (h : ∀ x, J prog σ n c Q E (aa (f x) (P))) : J prog σ n c Q E (aa (ex f) (P)) :=
 fun a w ha hw => let ⟨x, hx⟩ := sat_ex.1 hw; h x a w ha hx
theorem yM {f : X -> ab} (h : ∀ x, L prog σ n ops rest Q E (aa (f x) (P))) : L prog σ n ops rest Q E (aa (ex f) (P)) :=
 fun a w ha hw => let ⟨x, hx⟩ := sat_ex.1 hw; h x a w ha hx
theorem qW (h : p -> J prog σ n c Q E P) : J prog σ n c Q E (aa (lift p) (P)) :=
 fun a w ha hw => let ⟨x, hx⟩ := sat_lift.1 hw; h x a w ha hx
theorem bF (h : K σ n Q .normal E P) : L prog σ n ops [] Q E P := fun a w ha hs => wpList_nil (h a w ha hs)
theorem gO {X : Type} {x y : Code} (E' : X -> Env) (P' : X -> ab) (φ : X -> Prop)
  (h1 : J prog σ n x (Exit.then (fun a w => ∃ i, φ i /\ Agree n (E' i) a /\ Sat σ w (P' i)) Q) E P) (h2 : ∀ i, φ i -> J prog σ n y Q (E' i) (P' i)) : J prog σ n (.seq x y) Q E P :=
 bb fun a w ha hs => wp_mono (h1 a w ha hs) fun e a' w' he => by
  cases e with
  | normal => obtain ⟨i, hi, ha', hs'⟩ := he; exact h2 i hi a' w' ha' hs'
  | _ => exact he
theorem eM {E' : X -> Env} {P' : X -> ab} (i : X) (hi : φ i) (hs : Sub (E' i) E) (hp : Ent P (P' i)) :
  K σ n (Exit.then (fun a w => ∃ i, φ i /\ Agree n (E' i) a /\ Sat σ w (P' i)) Q') .normal E P :=
 fun _ _ ha hw => ⟨i, hi, ha.sub hs, hw.ent hp⟩
theorem aS {y : Code} (h : J prog σ n y Q E P) : K σ n (Exit.then (y.wp prog Q) Q) .normal E P := fun a w ha hs => h a w ha hs
theorem dD {X : Act -> World -> Prop} (h : K σ n Q .ret E P) : K σ n (Exit.then X Q) .ret E P := h
theorem cD {X : Act -> World -> Prop} {id : Nat} (h : K σ n Q (.exit id) E P) : K σ n (Exit.then X Q) (.exit id) E P := h
theorem mX {X : Act -> World -> Prop} (h : K σ n Q (.goto id) E P) : K σ n (Exit.then X Q) (.goto id) E P := h
theorem eg {id : Nat} (h : K σ n Q .normal E P) : K σ n (Exit.inBlock id Q) .normal E P := h
theorem fd {id : Nat} (h : K σ n Q .ret E P) : K σ n (Exit.inBlock id Q) .ret E P := h
theorem dF {id : Nat} (h : K σ n Q .normal E P) : K σ n (Exit.inBlock id Q) (.exit id) E P :=
 fun a w ha hs => by simp only [Exit.inBlock, if_true]; exact h a w ha hs
theorem bX {X : Type} {c : Code} (E' : X -> Env) (P' : X -> ab) (φ : X -> Prop) (μ : X -> Nat) (x0 : X) (h0 : φ x0) (hs : Sub (E' x0) E) (hp : Ent P (P' x0))
  (round : ∀ x, φ x -> J prog σ n c (Exit.then (fun a w => ∃ y, (φ y /\ μ y < μ x) /\ Agree n (E' y) a /\ Sat σ w (P' y)) Q) (E' x) (P' x)) : J prog σ n (.loop c) Q E P := by
 intro a w ha hw b k cs
 have key : ∀ m x a w, μ x = m -> φ x -> Agree n (E' x) a -> Sat σ w (P' x) ->
   ∃ e a' w', Q e a' w' /\ Arrives prog (lone (b.at a (.code c :: .inLoop c :: k)) cs w) b k cs e a' w' := by
  intro m
  induction m using Nat.strongRecOn with
  | _ m ih =>
   intro x a w hm hx ha hw
   obtain ⟨e, a₁, w₁, hq, harr⟩ := round x hx a w ha hw b (.inLoop c :: k) cs
   cases e with
   | normal =>
    obtain ⟨y, ⟨hy, hlt⟩, ha₁, hw₁⟩ := hq
    obtain ⟨e₂, a₂, w₂, hq₂, harr₂⟩ := ih (μ y) (hm ▸ hlt) y a₁ w₁ rfl hy ha₁ hw₁
    exact ⟨e₂, a₂, w₂, hq₂, .of_steps (Steps.trans harr (.one step_inLoop)) harr₂⟩
   | exit id => exact ⟨_, a₁, w₁, hq, .pass (x := .inLoop c) rfl (fun _ _ => .inl (by simp)) harr⟩
   | goto l => exact ⟨_, a₁, w₁, hq, .pass (x := .inLoop c) rfl (fun _ _ => .inl (by simp)) harr⟩
   | ret => exact ⟨_, a₁, w₁, hq, .pass (x := .inLoop c) rfl (fun _ _ => .inl (by simp)) harr⟩
   | panic ch => exact ⟨_, a₁, w₁, hq, .pass (x := .inLoop c) rfl (fun _ _ => .inl (by simp)) harr⟩
   | outgrown => exact ⟨_, a₁, w₁, hq, .pass (x := .inLoop c) rfl (fun _ _ => .inl (by simp)) harr⟩
 obtain ⟨e, a', w', hq, harr⟩ := key _ x0 a w rfl h0 (ha.sub hs) (hw.ent hp)
 exact ⟨e, a', w', hq, .of_steps (.one step_loop) harr⟩
theorem bO {E' : X -> Env} {P' : X -> ab} {μ : X -> Nat} {x : X} (y : X) (hy : φ y) (hm : μ y < μ x) (hs : Sub (E' y) E) (hp : Ent P (P' y)) :
  K σ n (Exit.then (fun a w => ∃ y, (φ y /\ μ y < μ x) /\ Agree n (E' y) a /\ Sat σ w (P' y)) Q') .normal E P :=
 fun _ _ ha hw => ⟨y, ⟨hy, hm⟩, ha.sub hs, hw.ent hp⟩
def FSpec (prog : Program) (f : FuncId) (args : Array Value) (P : ab) (φ : X -> Prop) (val : X -> Value) (Qo : X -> ab) : Prop :=
 ∀ (σ w : World) (F : ab), Sat σ w (aa (P) (F)) -> Calls prog f args w fun e w' => ∃ x, φ x /\ e = .returned (val x) /\ Sat σ w' (aa (Qo x) (F))
def bd (σ : World) (φ : X -> Prop) (val : X -> Value) (Qo : X -> ab) (F : ab) (e : Ending) (w' : World) : Prop :=
 ∃ x, φ x /\ e = .returned (val x) /\ Sat σ w' (aa (Qo x) (F))
instance : NP (bodyPost prog fn (bd σ φ val Qo F)) :=
 ⟨fun c a w h => by obtain ⟨_, x, _, he, _⟩ := h; cases he⟩
def dm : Nat -> List Value -> Env
 | _, [] => []
 | i, v :: l => (i, v) :: dm (i + 1) l
theorem gj : ∀ (l : List Value) (k i : Nat) (v : Value), Env.get (dm k l) i = some v -> k <= i /\ l[i - k]? = some v
 | [], k, i, v, h => by simp [dm, Env.get] at h
 | u :: l, k, i, v, h => by
  simp only [dm] at h
  rw [jz] at h
  by_cases e : k = i
  ·subst e
   simp at h
   simp [h]
  ·simp only [e, if_false] at h
   obtain ⟨h1, h2⟩ := gj l (k + 1) i v h
   refine ⟨by omega, ?_⟩
   rw [show i - k = (i - (k + 1)) + 1 by omega]
   simpa using h2
theorem FSpec.enter (hf : prog.funcs[f]? = some fn) (hb : fn.body = some c)
  (hn : Nat.ble args.length fn.ntmps = true)
  (h : ∀ σ F, J prog σ fn.ntmps c (bodyPost prog fn (bd σ φ val Qo F)) (dm 0 args) (aa (P) (F))) : FSpec prog f args.toArray P φ val Qo := by
 intro σ w F hs
 refine calls_of_wp hf hb ?_
 refine h σ F _ w ⟨rfl, ?_, ?_⟩ hs
 ·have := Nat.le_of_ble_eq_true hn
  simp
  omega
 ·intro i v hi
  obtain ⟨_, h2⟩ := gj args 0 i v hi
  have h2 : args[i]? = some v := h2
  have hlt : i < args.length := by
   rcases Nat.lt_or_ge i args.length with h | h
   ·exact h
   ·rw [List.getElem?_eq_none h] at h2; cases h2
  rw [Array.getElem?_append_left (by simpa using hlt)]
  simpa using h2
theorem eH {m : Nat} (hf : prog.funcs[f]? = some fn) (hb : fn.body = some c)
  (hm : fn.ntmps = m) (hn : Nat.ble args.length m = true)
  (h : ∀ σ F, J prog σ m c (bodyPost prog fn (bd σ φ val Qo F)) (dm 0 args) (aa (P) (F))) : FSpec prog f args.toArray P φ val Qo :=
 by subst hm; exact FSpec.enter hf hb hn h
theorem cj (h : L prog σ n ops rest Q E P) : L prog σ n ops rest Q E (aa (emp) (P)) := by rw [bN]; exact h
theorem bG (h : J prog σ n c Q E P) : J prog σ n c Q E (aa (emp) (P)) := by rw [bN]; exact h
theorem kZ (hr : fn.results = #[]) (x : X) (hx : φ x) (hv : val x = .tuple #[]) (hp : Ent P (aa (Qo x) (F))) :
  K σ n (bodyPost prog fn (bd σ φ val Qo F)) .ret E P := fun a w ha hs =>
 ⟨ha.defers, _, results_none hr a.tmps prog w, x, hx, by rw [hv], hs.ent hp⟩
theorem eG (hr : fn.results = #[]) (x : X) (hx : φ x) (hv : val x = .tuple #[]) (hp : Ent P (aa (Qo x) (F))) :
  K σ n (bodyPost prog fn (bd σ φ val Qo F)) .normal E P := fun a w ha hs =>
 ⟨ha.defers, _, results_none hr a.tmps prog w, x, hx, by rw [hv], hs.ent hp⟩
theorem aD (hr : fn.results = #[.tmp t]) (hv : Env.get E t = some v) (x : X) (hx : φ x) (hvx : v = val x) (hp : Ent P (aa (Qo x) (F))) :
  K σ n (bodyPost prog fn (bd σ φ val Qo F)) .ret E P := fun a w ha hs =>
 ⟨ha.defers, _, results_tmp hr a.tmps prog w, x, hx, by rw [Array.getD_eq_getD_getElem?, ha.slot t v hv]; exact congrArg _ hvx, hs.ent hp⟩
theorem cH {u : Tmp} {v' : Value} (hr : fn.results = #[.tmp t, .tmp u]) (hv : Env.get E t = some v) (hv' : Env.get E u = some v') (x : X) (hx : φ x)
  (hvx : .tuple #[v, v'] = val x) (hp : Ent P (aa (Qo x) (F))) : K σ n (bodyPost prog fn (bd σ φ val Qo F)) .ret E P := fun a w ha hs =>
 ⟨ha.defers, _, results_tmp2 hr a.tmps prog w, x, hx, by rw [Array.getD_eq_getD_getElem?, Array.getD_eq_getD_getElem?, ha.slot t v hv, ha.slot u v' hv']; exact congrArg _ hvx, hs.ent hp⟩
end
section
variable {prog : Program} {t : TypeId} {i : TypeInfo} {w : World} {p : Option Addr} {yk : IntKind} {c : Bool} {o f off m len cap e : Nat}
def i2 (prog : Program) (t : TypeId) (f : TypeDesc -> Bool) : Bool := match prog.underlying t with | some d => f d | none => false
def oI (prog : Program) (t : TypeId) (f : TypeInfo -> Bool) : Bool := match prog.info? t with | some d => f d | none => false
theorem cM {f : TypeDesc -> Bool} (h : i2 prog t f = true) : ∃ d, prog.underlying t = some d /\ f d = true := by
 unfold i2 at h; split at h
 ·exact ⟨_, by assumption, h⟩
 ·cases h
theorem fY {f : TypeInfo -> Bool} (h : oI prog t f = true) : ∃ d, prog.info? t = some d /\ f d = true := by
 unfold oI at h; split at h
 ·exact ⟨_, by assumption, h⟩
 ·cases h
def gS : TypeDesc -> Bool | .struct _ | .array _ _ => true | _ => false
class One (prog : Program) (t : TypeId) : Prop where
 b : (i2 prog t (fun d => !gS d) && oI prog t (fun i => Nat.beq i.size 1)) = true := by kernel_rfl
class Agg (prog : Program) (t : TypeId) (m : outParam Nat) : Prop where
 b : (i2 prog t gS && oI prog t (fun i => Nat.beq i.size m)) = true := by kernel_rfl
def HY (prog : Program) (t : TypeId) (f off m : Nat) : Bool := i2 prog t fun
 | .struct fs => match fs[f]? with
  | some fl => Nat.beq fl.offset off && oI prog fl.type (fun i => Nat.beq i.size m && Nat.blt 0 i.size)
  | none => false
 | _ => false
class Fld (prog : Program) (t : TypeId) (f : Nat) (off m : outParam Nat) : Prop where
 b : HY prog t f off m = true := by kernel_rfl
def EH (prog : Program) (t e m : Nat) : Bool := i2 prog t (fun | .slice e' => Nat.beq e' e | _ => false) && oI prog e (fun i => Nat.beq i.size m)
class Slc (prog : Program) (t : TypeId) (e m : outParam Nat) : Prop where
 b : EH prog t e m = true := by kernel_rfl
def Gg (prog : Program) (t k e m : Nat) : Bool := i2 prog t (fun | .array k' e' => Nat.beq e' e && Nat.beq k' k | _ => false) && oI prog e (fun i => Nat.beq i.size m)
class Arr (prog : Program) (t : TypeId) (k e m : outParam Nat) : Prop where
 b : Gg prog t k e m = true := by kernel_rfl
class Str (prog : Program) (t : TypeId) : Prop where
 b : i2 prog t (fun | .string => true | _ => false) = true := by kernel_rfl
class IntT (prog : Program) (t : TypeId) (k : outParam IntKind) : Prop where
 b : i2 prog t (fun | .int k' => decide (k' = k) | _ => false) = true := by kernel_rfl
class PtrT (prog : Program) (t : TypeId) : Prop where
 b : i2 prog t (fun | .pointer _ => true | _ => false) = true := by kernel_rfl
variable {prog : Program} {σ : World} {n : Nat} {Q : Exit -> Act -> World -> Prop} {E E' : Env} {P P' R F : ab} {ops : Array Oper} {rest : List Oper}
theorem One.spec (t : TypeId) [h : One prog t] : ∃ d i, prog.underlying t = some d /\ gS d = false /\ prog.info? t = some i /\ i.size = 1 := by
 have := h.b
 simp only [Bool.and_eq_true] at this
 obtain ⟨d, hd, h1⟩ := cM this.1
 obtain ⟨i, hi, h2⟩ := fY this.2
 exact ⟨d, i, hd, by simpa using h1, hi, Nat.eq_of_beq_eq_true h2⟩
theorem Agg.spec (t m : Nat) [h : Agg prog t m] : ∃ d i, prog.underlying t = some d /\ gS d = true /\ prog.info? t = some i /\ i.size = m := by
 have := h.b
 simp only [Bool.and_eq_true] at this
 obtain ⟨d, hd, h1⟩ := cM this.1
 obtain ⟨i, hi, h2⟩ := fY this.2
 exact ⟨d, i, hd, h1, hi, Nat.eq_of_beq_eq_true h2⟩
theorem Fld.spec (t f off m : Nat) [h : Fld prog t f off m] : ∃ fs fl i, prog.underlying t = some (.struct fs) /\ fs[f]? = some fl /\ fl.offset = off /\ prog.info? fl.type = some i /\ i.size = m /\ 0 < i.size := by
 obtain ⟨d, hd, h1⟩ := cM h.b
 split at h1
 ·split at h1
  ·rename_i fs _ fl hfl
   simp only [Bool.and_eq_true] at h1
   obtain ⟨i, hi, h2⟩ := fY h1.2
   simp only [Bool.and_eq_true] at h2
   exact ⟨fs, fl, i, hd, hfl, Nat.eq_of_beq_eq_true h1.1, hi, Nat.eq_of_beq_eq_true h2.1, Nat.le_of_ble_eq_true h2.2⟩
  ·cases h1
 ·cases h1
theorem Slc.spec (t e m : Nat) [h : Slc prog t e m] : prog.underlying t = some (.slice e) /\ ∃ i, prog.info? e = some i /\ i.size = m := by
 have := h.b
 unfold EH at this
 simp only [Bool.and_eq_true] at this
 obtain ⟨d, hd, h1⟩ := cM this.1
 obtain ⟨i, hi, h2⟩ := fY this.2
 refine ⟨?_, i, hi, Nat.eq_of_beq_eq_true h2⟩
 split at h1
 ·rw [hd, Nat.eq_of_beq_eq_true h1]
 ·cases h1
theorem Arr.spec (t k e m : Nat) [h : Arr prog t k e m] : prog.underlying t = some (.array k e) /\ ∃ i, prog.info? e = some i /\ i.size = m := by
 have := h.b
 unfold Gg at this
 simp only [Bool.and_eq_true] at this
 obtain ⟨d, hd, h1⟩ := cM this.1
 obtain ⟨i, hi, h2⟩ := fY this.2
 refine ⟨?_, i, hi, Nat.eq_of_beq_eq_true h2⟩
 split at h1
 ·simp only [Bool.and_eq_true] at h1
  rw [hd, Nat.eq_of_beq_eq_true h1.1, Nat.eq_of_beq_eq_true h1.2]
 ·cases h1
theorem Str.spec (t : TypeId) [h : Str prog t] : prog.underlying t = some .string := by
 obtain ⟨d, hd, h1⟩ := cM h.b
 split at h1
 ·exact hd
 ·cases h1
theorem IntT.spec (t : TypeId) (k : IntKind) [h : IntT prog t k] : prog.underlying t = some (.int k) := by
 obtain ⟨d, hd, h1⟩ := cM h.b
 split at h1
 ·rw [hd, of_decide_eq_true h1]
 ·cases h1
theorem PtrT.spec (t : TypeId) [h : PtrT prog t] : ∃ e, prog.underlying t = some (.pointer e) := by
 obtain ⟨d, hd, h1⟩ := cM h.b
 split at h1
 ·exact ⟨_, hd⟩
 ·cases h1
theorem cP (h : prog.info? t = some i) : (typeInfo t).run prog w = .ok i w := by
 simp [typeInfo, h]
theorem bk (h : prog.info? t = some i) : (sizeOf t).run prog w = .ok i.size w := by
 simp [sizeOf, cP h]
theorem ba {d : TypeDesc} (h : prog.underlying t = some d) : (underlying t).run prog w = .ok d w := by
 simp [underlying, h]
theorem gr {d : TypeDesc} (h : prog.underlying t = some d) : (isAgg t).run prog w = .ok (gS d) w := by
 unfold isAgg
 rw [Sem.run_bind, ba h, Result.andThen_ok]
 unfold gS
 cases d <;> rfl
@[reducible] def ad (b o : Nat) : Addr := ⟨b, o, none⟩
theorem db (b o k : Nat) : (ad b o).add k = ad b (o + k) := by
 unfold Addr.add ad
 split
 ·subst_vars; rfl
 ·rfl
section
variable (prog) (σ) (n)
def OpV (E : Env) (P : ab) (o : Oper) (v : Value) : Prop := ∀ a w, Agree n E a -> Sat σ w P -> (execOp a.eval o).run prog w = .ok (.value v) w
end
section
variable {d : Option Tmp} {ty : TypeId} {pos : String} {aft : Array Edge} {g : Option (Nat × Bool)} {x y z : Operand} {t t' : TypeId} {k : IntKind} {a b : Int} {v u : Value} {s r : ByteArray}
theorem ao (hx : ev E x = some v) : OpV prog σ n E P ⟨d, .move x, ty, pos, aft, g⟩ v := fun _ _ ha _ => by simp [execOp, ha.ev hx]
theorem aH (hx : ev E x = some v) : OpV prog σ n E P ⟨d, .assign x, ty, pos, aft, g⟩ v := fun _ _ ha _ => by simp [execOp, ha.ev hx]
theorem bi {p : Prop} [Decidable p] (hx : ev E x = some (.bool (decide p))) (hp : p) (hy : ev E y = some v) : OpV prog σ n E P ⟨d, .pick x y z, ty, pos, aft, g⟩ v :=
 fun _ _ ha _ => by simp [execOp, ha.ev hx, ha.ev hy, asBool, hp]
theorem bo {p : Prop} [Decidable p] (hx : ev E x = some (.bool (decide p))) (hp : ¬ p) (hz : ev E z = some v) : OpV prog σ n E P ⟨d, .pick x y z, ty, pos, aft, g⟩ v :=
 fun _ _ ha _ => by simp [execOp, ha.ev hx, ha.ev hz, asBool, hp]
theorem de (hx : ev E x = some (.bool true)) (hy : ev E y = some v) : OpV prog σ n E P ⟨d, .pick x y z, ty, pos, aft, g⟩ v :=
 fun _ _ ha _ => by simp [execOp, ha.ev hx, ha.ev hy, asBool]
theorem bv (hx : ev E x = some (.bool false)) (hz : ev E z = some v) : OpV prog σ n E P ⟨d, .pick x y z, ty, pos, aft, g⟩ v :=
 fun _ _ ha _ => by simp [execOp, ha.ev hx, ha.ev hz, asBool]
theorem fI (hx : ev E x = some (.int k a)) (hy : ev E y = some (.int k b)) : OpV prog σ n E P ⟨d, .binOp .add t x y t', ty, pos, aft, g⟩ (.int k (k.wrap (a + b))) :=
 fun _ _ ha _ => by simp [execOp, ha.ev hx, ha.ev hy, eqGuard, binOp, Op.intArith]
theorem p7 (hx : ev E x = some (.int k a)) (hy : ev E y = some (.int k b)) : OpV prog σ n E P ⟨d, .binOp .sub t x y t', ty, pos, aft, g⟩ (.int k (k.wrap (a - b))) :=
 fun _ _ ha _ => by simp [execOp, ha.ev hx, ha.ev hy, eqGuard, binOp, Op.intArith]
theorem p9 (hx : ev E x = some (.int k a)) (hy : ev E y = some (.int k b)) : OpV prog σ n E P ⟨d, .binOp .mul t x y t', ty, pos, aft, g⟩ (.int k (k.wrap (a * b))) :=
 fun _ _ ha _ => by simp [execOp, ha.ev hx, ha.ev hy, eqGuard, binOp, Op.intArith]
theorem jI {m : Int} (h : -9223372036854775808 <= m /\ m <= 9223372036854775807) : IntKind.i64.wrap m = m := Go.IntWalk.i64_in m h
theorem aQ (hx : ev E x = some (.int .i64 a)) (hy : ev E y = some (.int .i64 b)) (h : -9223372036854775808 <= a + b /\ a + b <= 9223372036854775807) : OpV prog σ n E P ⟨d, .binOp .add t x y t', ty, pos, aft, g⟩ (.int .i64 (a + b)) := by
 have := fI (prog := prog) (σ := σ) (n := n) (P := P) (d := d) (ty := ty) (pos := pos) (aft := aft) (g := g) (t := t) (t' := t') hx hy
 rwa [jI h] at this
theorem bm (hx : ev E x = some (.int .i64 a)) (hy : ev E y = some (.int .i64 b)) (h : -9223372036854775808 <= a - b /\ a - b <= 9223372036854775807) : OpV prog σ n E P ⟨d, .binOp .sub t x y t', ty, pos, aft, g⟩ (.int .i64 (a - b)) := by
 have := p7 (prog := prog) (σ := σ) (n := n) (P := P) (d := d) (ty := ty) (pos := pos) (aft := aft) (g := g) (t := t) (t' := t') hx hy
 rwa [jI h] at this
theorem fW (hx : ev E x = some (.int .i64 a)) (hy : ev E y = some (.int .i64 b)) (h : -9223372036854775808 <= a * b /\ a * b <= 9223372036854775807) : OpV prog σ n E P ⟨d, .binOp .mul t x y t', ty, pos, aft, g⟩ (.int .i64 (a * b)) := by
 have := p9 (prog := prog) (σ := σ) (n := n) (P := P) (d := d) (ty := ty) (pos := pos) (aft := aft) (g := g) (t := t) (t' := t') hx hy
 rwa [jI h] at this
theorem p8 (hx : ev E x = some (.int k a)) (hy : ev E y = some (.int k b)) (h : b ≠ 0) : OpV prog σ n E P ⟨d, .binOp .quo t x y t', ty, pos, aft, g⟩ (.int k (k.wrap (a.tdiv b))) :=
 fun _ _ ha _ => by simp [execOp, ha.ev hx, ha.ev hy, eqGuard, binOp, Op.intDiv, h]
theorem dA (hx : ev E x = some (.int k a)) (hy : ev E y = some (.int k b)) (h : b ≠ 0) : OpV prog σ n E P ⟨d, .binOp .rem t x y t', ty, pos, aft, g⟩ (.int k (a.tmod b)) :=
 fun _ _ ha _ => by simp [execOp, ha.ev hx, ha.ev hy, eqGuard, binOp, Op.intDiv, h]
theorem fH (hx : ev E x = some (.int k a)) (hy : ev E y = some (.int k b)) : OpV prog σ n E P ⟨d, .binOp .and t x y t', ty, pos, aft, g⟩ (.int k (k.wrap (BitVec.ofInt k.bits a &&& BitVec.ofInt k.bits b).toNat)) :=
 fun _ _ ha _ => by simp [execOp, ha.ev hx, ha.ev hy, eqGuard, binOp, Op.intBits]
theorem s9 (hx : ev E x = some (.int k a)) (hy : ev E y = some (.int k b)) : OpV prog σ n E P ⟨d, .binOp .or t x y t', ty, pos, aft, g⟩ (.int k (k.wrap (BitVec.ofInt k.bits a ||| BitVec.ofInt k.bits b).toNat)) :=
 fun _ _ ha _ => by simp [execOp, ha.ev hx, ha.ev hy, eqGuard, binOp, Op.intBits]
theorem pY (hx : ev E x = some (.int k a)) (hy : ev E y = some (.int k b)) : OpV prog σ n E P ⟨d, .binOp .xor t x y t', ty, pos, aft, g⟩ (.int k (k.wrap (BitVec.ofInt k.bits a ^^^ BitVec.ofInt k.bits b).toNat)) :=
 fun _ _ ha _ => by simp [execOp, ha.ev hx, ha.ev hy, eqGuard, binOp, Op.intBits]
theorem gC (hx : ev E x = some (.int k a)) (hy : ev E y = some (.int yk b)) (h : 0 <= b) : OpV prog σ n E P ⟨d, .binOp .shl t x y t', ty, pos, aft, g⟩ (.int k (k.wrap (a * 2 ^ (min b.toNat k.bits)))) :=
 fun _ _ ha _ => by simp [execOp, ha.ev hx, ha.ev hy, eqGuard, binOp, Op.shift, show ¬ b < 0 by omega]
theorem i7 (hx : ev E x = some (.int k a)) (hy : ev E y = some (.int yk b)) (h : 0 <= b) : OpV prog σ n E P ⟨d, .binOp .shr t x y t', ty, pos, aft, g⟩ (.int k (a.fdiv (2 ^ (min b.toNat k.bits)))) :=
 fun _ _ ha _ => by simp [execOp, ha.ev hx, ha.ev hy, eqGuard, binOp, Op.shift, show ¬ b < 0 by omega]
theorem cv (hx : ev E x = some (.int k a)) (hy : ev E y = some (.int k b)) : OpV prog σ n E P ⟨d, .binOp .eql t x y t', ty, pos, aft, g⟩ (.bool (decide (a = b))) :=
 fun _ _ ha _ => by simp [execOp, ha.ev hx, ha.ev hy, eqGuard, binOp, Op.intCmp]; rfl
theorem bs (hx : ev E x = some (.int k a)) (hy : ev E y = some (.int k b)) : OpV prog σ n E P ⟨d, .binOp .neq t x y t', ty, pos, aft, g⟩ (.bool (decide (a ≠ b))) :=
 fun _ _ ha _ => by
  have : (a != b) = decide (a ≠ b) := by by_cases h : a = b <;> simp [h]
  simp [execOp, ha.ev hx, ha.ev hy, eqGuard, binOp, Op.intCmp, this]
theorem aM (hx : ev E x = some (.int k a)) (hy : ev E y = some (.int k b)) : OpV prog σ n E P ⟨d, .binOp .lss t x y t', ty, pos, aft, g⟩ (.bool (decide (a < b))) :=
 fun _ _ ha _ => by simp [execOp, ha.ev hx, ha.ev hy, eqGuard, binOp, Op.intCmp]
theorem fh (hx : ev E x = some (.int k a)) (hy : ev E y = some (.int k b)) : OpV prog σ n E P ⟨d, .binOp .leq t x y t', ty, pos, aft, g⟩ (.bool (decide (a <= b))) :=
 fun _ _ ha _ => by simp [execOp, ha.ev hx, ha.ev hy, eqGuard, binOp, Op.intCmp]
theorem bt (hx : ev E x = some (.int k a)) (hy : ev E y = some (.int k b)) : OpV prog σ n E P ⟨d, .binOp .gtr t x y t', ty, pos, aft, g⟩ (.bool (decide (b < a))) :=
 fun _ _ ha _ => by simp [execOp, ha.ev hx, ha.ev hy, eqGuard, binOp, Op.intCmp]
theorem dt (hx : ev E x = some (.int k a)) (hy : ev E y = some (.int k b)) : OpV prog σ n E P ⟨d, .binOp .geq t x y t', ty, pos, aft, g⟩ (.bool (decide (b <= a))) :=
 fun _ _ ha _ => by simp [execOp, ha.ev hx, ha.ev hy, eqGuard, binOp, Op.intCmp]
theorem j6 {s r : ByteArray} (e : s.toList = r.toList) : s = r := by
 rw [Go.ByteArray.toList_eq, Go.ByteArray.toList_eq] at e
 cases s; cases r
 simp only at e
 rw [Array.toList_inj.1 e]
theorem bytes_beq (s r : ByteArray) : (s.toList == r.toList) = decide (s = r) := by
 by_cases h : s = r
 ·subst h; simp
 ·have : s.toList ≠ r.toList := fun e => h (j6 e)
  simp [h, this]
theorem rL (hx : ev E x = some (.string s)) (hy : ev E y = some (.string r)) : OpV prog σ n E P ⟨d, .binOp .eql t x y t', ty, pos, aft, g⟩ (.bool (decide (s = r))) :=
 fun _ _ ha _ => by simp [execOp, ha.ev hx, ha.ev hy, eqGuard, binOp, Op.stringOp, bytes_beq]
theorem rK (hx : ev E x = some (.string s)) (hy : ev E y = some (.string r)) : OpV prog σ n E P ⟨d, .binOp .neq t x y t', ty, pos, aft, g⟩ (.bool (decide (s ≠ r))) :=
 fun _ _ ha _ => by
  have : (!decide (s = r)) = decide (s ≠ r) := by by_cases h : s = r <;> simp [h]
  simp [execOp, ha.ev hx, ha.ev hy, eqGuard, binOp, Op.stringOp, bytes_beq]
theorem ej (hx : ev E x = some (.string s)) (hy : ev E y = some (.string r)) (h : s.size + r.size <= 9223372036854775807) : OpV prog σ n E P ⟨d, .binOp .add t x y t', ty, pos, aft, g⟩ (.string (s ++ r)) :=
 fun _ _ ha _ => by
  have : ¬ ((s.size : Int) + (r.size : Int) > IntKind.i64.max) := by
   have : IntKind.i64.max = 9223372036854775807 := by decide
   omega
  simp only [execOp, ha.ev hx, ha.ev hy]
  rw [show eqGuard .add t x y (.string s) (.string r) = pure () from rfl, show binOp .add t (.string s) (.string r) = Op.stringOp .add s r from rfl]
  have e : Op.stringOp .add s r = (if ((s.size + r.size : Nat) : Int) > IntKind.i64.max then unsupported (.resourceLimit "string concatenation: a sum of the lengths that is no int") else pure (.string (s ++ r))) := rfl
  rw [e, if_neg (by rw [Int.natCast_add]; exact this)]
  rfl
theorem o9 [PtrT prog t] : (Op.equal t (.pointer p) (.pointer none)).run prog w = .ok p.isNone w := by
 obtain ⟨e, he⟩ := PtrT.spec (prog := prog) t
 show (Op.equalIn (9999 + 1) t (.pointer p) (.pointer none)).run prog w = _
 generalize 9999 = dep
 unfold Op.equalIn
 rw [Sem.run_bind, ba he, Result.andThen_ok]
 cases p <;> rfl
theorem bj [PtrT prog t] (hx : ev E x = some (.pointer p)) (hy : ev E y = some (.pointer none)) : OpV prog σ n E P ⟨d, .binOp .eql t x y t', ty, pos, aft, g⟩ (.bool p.isNone) :=
 fun _ w ha _ => by
  simp only [execOp, ha.ev hx, ha.ev hy]
  rw [show eqGuard .eql t x y (.pointer p) (.pointer none) = pure () from rfl, show binOp .eql t (.pointer p) (.pointer none) = (do pure (.bool (<- Op.equal t (.pointer p) (.pointer none)))) from by cases p <;> rfl]
  simp [o9]
theorem fO [PtrT prog t] (hx : ev E x = some (.pointer p)) (hy : ev E y = some (.pointer none)) : OpV prog σ n E P ⟨d, .binOp .neq t x y t', ty, pos, aft, g⟩ (.bool p.isSome) :=
 fun _ w ha _ => by
  simp only [execOp, ha.ev hx, ha.ev hy]
  rw [show eqGuard .neq t x y (.pointer p) (.pointer none) = pure () from rfl, show binOp .neq t (.pointer p) (.pointer none) = (do pure (.bool (!(<- Op.equal t (.pointer p) (.pointer none))))) from by cases p <;> rfl]
  simp [o9]
class BoolT (prog : Program) (t : TypeId) : Prop where
 b : i2 prog t (fun | .bool => true | _ => false) = true := by kernel_rfl
theorem ts {b : Bool} [h : BoolT prog t] : (Op.equal t (.bool b) (.bool c)).run prog w = .ok (b == c) w := by
 obtain ⟨dd, hd, h1⟩ := cM h.b
 split at h1
 ·show (Op.equalIn (9999 + 1) t (.bool b) (.bool c)).run prog w = _
  generalize 9999 = dep
  unfold Op.equalIn
  rw [Sem.run_bind, ba hd, Result.andThen_ok]
  rfl
 ·cases h1
theorem nQ {b : Bool} [BoolT prog t] (hx : ev E x = some (.bool b)) (hy : ev E y = some (.bool c)) : OpV prog σ n E P ⟨d, .binOp .neq t x y t', ty, pos, aft, g⟩ (.bool (b != c)) := fun _ w ha _ => by
 simp only [execOp, ha.ev hx, ha.ev hy]
 rw [show eqGuard .neq t x y (.bool b) (.bool c) = pure () from rfl, show binOp .neq t (.bool b) (.bool c) = (do pure (.bool (!(<- Op.equal t (.bool b) (.bool c))))) from rfl]
 simp only [Sem.run_bind, Sem.run_pure, ts, Result.andThen_ok]
 cases b <;> cases c <;> rfl
theorem fF (hx : ev E x = some (.bool c)) : OpV prog σ n E P ⟨d, .unOp .not t x, ty, pos, aft, g⟩ (.bool (!c)) :=
 fun _ _ ha _ => by simp [execOp, ha.ev hx, Op.unary]
theorem lG {p : Prop} [Decidable p] (hx : ev E x = some (.bool (decide p))) : OpV prog σ n E P ⟨d, .unOp .not t x, ty, pos, aft, g⟩ (.bool (decide (¬ p))) :=
 fun _ _ ha _ => by
  have : (!decide p) = decide (¬ p) := by by_cases h : p <;> simp [h]
  simp [execOp, ha.ev hx, Op.unary]
theorem zK (hx : ev E x = some (.int k a)) : OpV prog σ n E P ⟨d, .unOp .neg t x, ty, pos, aft, g⟩ (.int k (k.wrap (0 - a))) :=
 fun _ _ ha _ => by simp [execOp, ha.ev hx, Op.unary, Op.intArith]
theorem oW (hx : ev E x = some (.int k a)) : OpV prog σ n E P ⟨d, .unOp .xor t x, ty, pos, aft, g⟩ (.int k (k.wrap (BitVec.ofInt k.bits (if k.signed then -1 else k.max) ^^^ BitVec.ofInt k.bits a).toNat)) :=
 fun _ _ ha _ => by simp [execOp, ha.ev hx, Op.unary, Op.intBits]
theorem eF {p : Addr} (hx : ev E x = some (.pointer (some p))) : OpV prog σ n E P ⟨d, .nilCheck x, ty, pos, aft, g⟩ (.pointer (some p)) :=
 fun _ _ ha _ => by simp [execOp, ha.ev hx]
theorem ap {vs : Array Value} {i : Nat} (hx : ev E x = some (.tuple vs)) (hi : vs[i]? = some v) : OpV prog σ n E P ⟨d, .extract x i, ty, pos, aft, g⟩ v :=
 fun _ _ ha _ => by simp [execOp, ha.ev hx, Instr.extract, hi]
theorem dX {src dst : TypeId} {k' : IntKind} [IntT prog src k] [IntT prog dst k'] (hx : ev E x = some (.int k a)) : OpV prog σ n E P ⟨d, .convert src dst x, ty, pos, aft, g⟩ (.int k' (k'.wrap a)) :=
 fun _ _ ha _ => by simp [execOp, ha.ev hx, convert, ba (IntT.spec (prog := prog) src k), ba (IntT.spec (prog := prog) dst k'), Conv.intToInt]
theorem aB {fn : Fn} {first captured : Array Operand} {fs cs : List Value} (hf : evl E first.toList = some fs) (hc : evl E captured.toList = some cs) :
  OpV prog σ n E P ⟨d, .makeFunc fn first captured, ty, pos, aft, g⟩ (.func fn fs.toArray cs.toArray) := fun ac _ ha _ => by
 have h1 : first.map ac.eval = fs.toArray := by rw [<- ha.evl hf]; exact Array.toList_inj.1 (by rw [Array.toList_map])
 have h2 : captured.map ac.eval = cs.toArray := by rw [<- ha.evl hc]; exact Array.toList_inj.1 (by rw [Array.toList_map])
 simp [execOp, Instr.makeFunc, h1, h2]
theorem gD {b : Nat} [Fld prog t f off m] (hx : ev E x = some (.pointer (some (ad b o)))) : OpV prog σ n E P ⟨d, .fieldAddr t x f, ty, pos, aft, g⟩ (.pointer (some (ad b (o + off)))) :=
 fun _ w ha _ => by
  obtain ⟨fs, fl, i, h1, h2, h3, h4, h5, h6⟩ := Fld.spec (prog := prog) t f off m
  have h7 : ¬ i.size = 0 := by omega
  have : (fieldPlace (ad b o) fl).run prog w = .ok (ad b (o + off)) w := by
   unfold fieldPlace
   simp only [Sem.run_bind, bk h4, Result.andThen_ok, h7, if_false, Sem.run_pure, db, h3]
  simp only [execOp, ha.ev hx, Instr.fieldAt, Sem.run_bind, ba h1, Result.andThen_ok, h2, Instr.sureAddr, Sem.run_pure, this]
theorem aj {b : Nat} [Fld prog t f off m] (hx : ev E x = some (.pointer (some (ad b 0)))) : OpV prog σ n E P ⟨d, .fieldAddr t x f, ty, pos, aft, g⟩ (.pointer (some (ad b off))) := by
 have := gD (prog := prog) (σ := σ) (n := n) (P := P) (d := d) (ty := ty) (pos := pos) (aft := aft) (g := g) (t := t) (f := f) (off := off) (m := m) hx
 rwa [Nat.zero_add] at this
theorem au {b : Nat} [Slc prog t e m] (hx : ev E x = some (.slice (some (ad b o)) len cap)) (hy : ev E y = some (.int k a)) (h : 0 <= a /\ a < len) :
  OpV prog σ n E P ⟨d, .indexAddr t x y, ty, pos, aft, g⟩ (.pointer (some (ad b (o + a.toNat * m)))) := fun _ w ha _ => by
 obtain ⟨h1, i, h2, h3⟩ := Slc.spec (prog := prog) t e m
 simp only [execOp, ha.ev hx, ha.ev hy, Instr.indexAt, Sem.run_bind, asIntOf, Sem.run_pure, ba h1, Result.andThen_ok, Sem.run_ite]
 rw [if_pos h]
 simp only [bk h2, Result.andThen_ok, db, h3]
theorem aK {b : Nat} [Arr prog t len e m] (hx : ev E x = some (.pointer (some (ad b o)))) (hy : ev E y = some (.int k a)) (h : 0 <= a /\ a < len) :
  OpV prog σ n E P ⟨d, .indexAddr t x y, ty, pos, aft, g⟩ (.pointer (some (ad b (o + a.toNat * m)))) := fun _ w ha _ => by
 obtain ⟨h1, i, h2, h3⟩ := Arr.spec (prog := prog) t len e m
 simp only [execOp, ha.ev hx, ha.ev hy, Instr.indexAt, Sem.run_bind, asIntOf, Sem.run_pure, ba h1, Result.andThen_ok, Sem.run_ite, Instr.sureAddr]
 rw [if_pos h]
 simp only [bk h2, Result.andThen_ok, db, h3]
theorem n5 (s : ByteArray) (i : Nat) (h : i < s.size) : s[i]? = some (s.data.toList.getD i 0) := by
 have h' : i < s.data.toList.length := by rw [Array.length_toList]; exact h
 rw [getElem?_pos s i h, List.getD_eq_getElem?_getD, List.getElem?_eq_getElem h', Option.getD_some]
 rfl
def qr (s : ByteArray) (i : Nat) : Int := (s.data.toList.getD i 0).toNat
theorem CU (s : ByteArray) (i : Nat) : qr s i < 256 := by unfold qr; have := (s.data.toList.getD i 0).toNat_lt; omega
theorem CV (s : ByteArray) (i : Nat) : 0 <= qr s i := by unfold qr; omega
theorem gu [Str prog t] (hx : ev E x = some (.string s)) (hy : ev E y = some (.int k a)) (h : 0 <= a /\ a < s.size) :
  OpV prog σ n E P ⟨d, .index t x y, ty, pos, aft, g⟩ (.int .u8 (qr s a.toNat)) := fun _ w ha _ => by
 have hlt : a.toNat < s.size := by omega
 simp only [execOp, ha.ev hx, ha.ev hy, Instr.index, Sem.run_bind, asIntOf, Sem.run_pure, ba (Str.spec (prog := prog) t), Result.andThen_ok]
 rw [if_pos h.1, n5 s _ hlt]
 rfl
theorem aX [Str prog t] (hx : ev E x = some (.string s)) : OpV prog σ n E P ⟨d, .call ⟨.builtin .len, #[x], #[t]⟩, ty, pos, aft, g⟩ (.int .i64 s.size) :=
 fun _ w ha _ => by
  simp only [execOp, resolve, List.map_toArray, List.map_cons, List.map_nil, ha.ev hx, Sem.run_bind, Sem.run_pure, Result.andThen_ok, invoke, builtin, Builtin.len_]
  simp [ba (Str.spec (prog := prog) t), goInt]
theorem bC {A : Option Addr} [Slc prog t e m] (hx : ev E x = some (.slice A len cap)) : OpV prog σ n E P ⟨d, .call ⟨.builtin .len, #[x], #[t]⟩, ty, pos, aft, g⟩ (.int .i64 len) :=
 fun _ w ha _ => by
  obtain ⟨h1, i, h2, h3⟩ := Slc.spec (prog := prog) t e m
  simp only [execOp, resolve, List.map_toArray, List.map_cons, List.map_nil, ha.ev hx, Sem.run_bind, Sem.run_pure, Result.andThen_ok, invoke, builtin, Builtin.len_]
  simp [ba h1, goInt]
theorem iw (hx : ev E x = some (.int k a)) (hy : ev E y = some (.int k b)) : OpV prog σ n E P ⟨d, .call ⟨.builtin .max, #[x, y], #[t, t']⟩, ty, pos, aft, g⟩ (.int k (if b > a then b else a)) :=
 fun _ w ha _ => by
  simp only [execOp, resolve, List.map_toArray, List.map_cons, List.map_nil, ha.ev hx, ha.ev hy, Sem.run_bind, Sem.run_pure, Result.andThen_ok, invoke, builtin, Builtin.max_]
  simp [Builtin.max2]
theorem nl (hx : ev E x = some (.int k a)) (hy : ev E y = some (.int k b)) : OpV prog σ n E P ⟨d, .call ⟨.builtin .min, #[x, y], #[t, t']⟩, ty, pos, aft, g⟩ (.int k (if b < a then b else a)) :=
 fun _ w ha _ => by
  simp only [execOp, resolve, List.map_toArray, List.map_cons, List.map_nil, ha.ev hx, ha.ev hy, Sem.run_bind, Sem.run_pure, Result.andThen_ok, invoke, builtin, Builtin.min_]
  simp [Builtin.min2]
def Rd (P : ab) (b o : Nat) (v : Value) : Prop := ∀ σ w, Sat σ w P -> w.cell? (ad b o) = some v
theorem ar {b : Nat} [One prog t] (hx : ev E x = some (.pointer (some (ad b o)))) (hr : Rd P b o v) : OpV prog σ n E P ⟨d, .load t x, ty, pos, aft, g⟩ v :=
 fun _ w ha hs => by
  obtain ⟨dd, i, h1, h2, h3, h4⟩ := One.spec (prog := prog) t
  simp only [execOp, ha.ev hx, Instr.loadAt, Instr.sureAddr, Sem.run_bind, Sem.run_pure, Result.andThen_ok, loadVar, gr h1, h2, Bool.false_eq_true, if_false, run_load, hr σ w hs]
theorem br {b : Nat} {vs : List Value} [Agg prog t m] (hx : ev E x = some (.pointer (some (ad b o)))) (hl : vs.length = m) (hr : ∀ j u, vs[j]? = some u -> Rd P b (o + j) u) :
  OpV prog σ n E P ⟨d, .load t x, ty, pos, aft, g⟩ (.agg vs.toArray) :=
 fun _ w ha hs => by
  obtain ⟨dd, i, h1, h2, h3, h4⟩ := Agg.spec (prog := prog) t m
  have hc := run_loadCells_list (P := prog) (w := w) (ad b o) vs (fun j u hj => by rw [db]; exact hr j u hj σ w hs)
  simp only [execOp, ha.ev hx, Instr.loadAt, Instr.sureAddr, Sem.run_bind, Sem.run_pure, Result.andThen_ok, loadVar, gr h1, h2, if_true, bk h3, h4]
  rw [<- hl, hc]
  rfl
end
end
section
variable {A P R R0 : ab} {b t m j id i : Nat} {l vs : List Value} {x v : Value} {o : Oper} {X : Type} {d : Option Nat} {op : Op} {ty : TypeId} {pos : String} {aft : Array Edge} {want : Bool} {p : Prop} {B : List Nat} {φ : X -> Prop}
def am (b : Nat) (l : List Value) (t : TypeId) : ab := blk b (.cells l.toArray t (0, 0))
class Look (P : ab) (b : Nat) (l : outParam (List Value)) (t : outParam TypeId) (R : outParam ab) : Prop where
 eq : P = (aa (am b l t) (R))
instance (priority := 100) {t : TypeId} [h : Look P b l t R] : Look (aa (A) (P)) b l t (aa (A) (R)) :=
 ⟨by rw [h.eq, aR]⟩
instance (priority := 150) {B : ab} {t : TypeId} [h : Look (aa (A) (aa (B) (P))) b l t R] : Look (aa ((aa (A) (B))) (P)) b l t R := ⟨by rw [ak]; exact h.eq⟩
instance (priority := 200) {t : TypeId} : Look (aa (am b l t) (R)) b l t R := ⟨rfl⟩
instance (priority := 50) {t : TypeId} : Look (am b l t) b l t emp := ⟨(cR _).symm⟩
class Take (P A : ab) (R : outParam ab) : Prop where
 eq : P = (aa (A) (R))
instance (priority := 100) {B : ab} [h : Take P A R] : Take (aa (B) (P)) A (aa (B) (R)) := ⟨by rw [h.eq, aR]⟩
instance (priority := 150) {B C : ab} [h : Take (aa (A) (aa (B) (P))) C R] : Take (aa ((aa (A) (B))) (P)) C R := ⟨by rw [ak]; exact h.eq⟩
instance (priority := 200) : Take (aa (A) (R)) A R := ⟨rfl⟩
instance (priority := 300) {B R' : ab} [h : Take P A R] [k : Take R B R'] : Take P (aa (A) (B)) R' := ⟨by rw [h.eq, k.eq, ak]⟩
instance (priority := 50) : Take P P emp := ⟨(cR P).symm⟩
instance (priority := 400) : Take P emp P := ⟨(bN P).symm⟩
theorem Ent.take {Q : ab} [h : Take P Q R] : Ent P Q := by rw [h.eq]; exact Ent.left
theorem dH {Q : ab} [h : Take P Q R] : Ent P (aa (Q) (R)) := Ent.of h.eq
theorem dz {B : ab} [h : Take P A R] (e : Ent A B) : Ent P (aa (B) (R)) := by rw [h.eq]; exact e.frame R
class CutL (l : List Value) (o m : Nat) (vs : outParam (List Value)) : Prop where
 eq : (l.drop o).take m = vs
 le : vs.length = m
instance : CutL l 0 0 [] := ⟨by simp, rfl⟩
instance [h : CutL l 0 m vs] : CutL (x :: l) 0 (m + 1) (x :: vs) := ⟨by have := h.eq; simp at this; simp [this], by simp [h.le]⟩
instance {o : Nat} [h : CutL l o m vs] : CutL (x :: l) (o + 1) m vs := ⟨by simpa using h.eq, h.le⟩
variable {prog : Program} {σ : World} {n : Nat} {Q : Exit -> Act -> World -> Prop} {E E' : Env} {P P' R F : ab} {ops : Array Oper} {rest : List Oper}
theorem fZ {w : World} {o : Nat} {t : TypeId} (h : Sat σ w (aa (am b l t) (R))) : w.cell? (ad b o) = l[o]? := by
 have := h.blk
 simp [World.cell?, ad, this]
theorem aC {o : Nat} {t : TypeId} [h : Look P b l t R] (hv : l[o]? = some v) : Rd P b o v := fun σ w hs => by
 rw [h.eq] at hs
 rw [fZ hs, hv]
section
variable (prog) (σ) (n)
def OpX (E : Env) (P : ab) (o : Oper) (φ : X -> Prop) (E' : X -> Env) (P' : X -> ab) : Prop :=
 ∀ a w, Agree n E a -> Sat σ w P -> ∀ (Kn : Act -> World -> Prop) (Q : Exit -> Act -> World -> Prop), (∀ x a' w', φ x -> Agree n (E' x) a' -> Sat σ w' (P' x) -> Kn a' w') -> o.wp prog a w Kn Q
end
theorem bI {d : Nat} {val : X -> Value} {P' : X -> ab} (ho : o.dst = some d) (hd : Nat.blt d n = true)
  (h : ∀ a w, Agree n E a -> Sat σ w P -> ∃ x w', φ x /\ (execOp a.eval o).run prog w = .ok (.value (val x)) w' /\ Sat σ w' (P' x)) : OpX prog σ n E P o φ (fun x => (d, val x) :: E) P' := by
 intro a w ha hs Kn Q hk
 obtain ⟨x, w', hx, hr, hs'⟩ := h a w ha hs
 unfold Oper.wp
 rw [hr, Oper.upon_value]
 have hd' : d < n := Nat.le_of_ble_eq_true hd
 exact hk x _ _ hx (by rw [ho]; exact ha.put hd' _) hs'
theorem gL {P' : X -> ab} (ho : o.dst = none)
  (h : ∀ a w, Agree n E a -> Sat σ w P -> ∃ x w', φ x /\ (execOp a.eval o).run prog w = .ok .skip w' /\ Sat σ w' (P' x)) : OpX prog σ n E P o φ (fun _ => E) P' := by
 intro a w ha hs Kn Q hk
 obtain ⟨x, w', hx, hr, hs'⟩ := h a w ha hs
 unfold Oper.wp
 rw [hr, Oper.upon_skip]
 exact hk x _ _ hx (by rw [ho]; exact ha) hs'
theorem OpV.opx {d : Nat} (h : OpV prog σ n E P o v) (ho : o.dst = some d) (hd : Nat.blt d n = true) : OpX prog σ n E P o (fun _ : Unit => True) (fun _ => (d, v) :: E) (fun _ => P) :=
 bI ho hd fun a w ha hs => ⟨(), w, trivial, h a w ha hs, hs⟩
theorem fp {o : Oper} (hg : o.guard = none) {X : Type} {φ : X -> Prop} {E' : X -> Env} {P' : X -> ab} (h : OpX prog σ n E P o φ E' P') (k : ∀ x, φ x -> L prog σ n ops rest Q (E' x) (P' x)) : L prog σ n ops (o :: rest) Q E P :=
 fun a w ha hs => wpList_plain hg fun _ hK => h a w ha hs _ _ fun x a' w' hx ha' hs' => hK _ _ (k x hx a' w' ha' hs')
theorem aT {d : Nat} {op : Op} {ty : TypeId} {pos : String} {aft : Array Edge} {v : Value} (h : OpV prog σ n E P ⟨some d, op, ty, pos, aft, none⟩ v) (hd : Nat.blt d n = true) (k : L prog σ n ops rest Q ((d, v) :: E) P) :
 L prog σ n ops (⟨some d, op, ty, pos, aft, none⟩ :: rest) Q E P := fp rfl (h.opx rfl hd) fun _ _ => k
theorem iZ {a : Act} (ha : Agree n E a) {b : Bool} (hj : (ops[j]?).bind (·.dst) = some t) (hb : Env.get E t = some (.bool b)) : yielded ops a.tmps j = some b := by
 unfold yielded
 rw [hj, Option.bind_some, ha.slot t _ hb]
theorem mc {d : Option Nat} {op : Op} {ty : TypeId} {pos : String} {aft : Array Edge} {j t : Nat} {want b : Bool} (hj : (ops[j]?).bind (·.dst) = some t) (hb : Env.get E t = some (.bool b)) (hne : (b == want) = false)
  (k : L prog σ n ops rest Q E P) (hd : ∀ i, d = some i -> Env.get E i = none) : L prog σ n ops (⟨d, op, ty, pos, aft, some (j, want)⟩ :: rest) Q E P := fun a w ha hs => by
 unfold wpList
 have : Region.wanted ⟨d, op, ty, pos, aft, some (j, want)⟩ (yielded ops a.tmps) = false := by
  simp only [Region.wanted, iZ ha hj hb]
  simpa using hne
 rw [this]
 simp only [Bool.false_eq_true, if_false]
 refine k _ w ?_ hs
 cases d with
 | none => exact ha
 | some d =>
  refine ⟨ha.defers, by simp [Act.put, ha.size], fun i u hi => ?_⟩
  simp only [Act.put]
  by_cases e : d = i
  ·subst e; rw [hd d rfl] at hi; cases hi
  ·rw [Array.getElem?_setIfInBounds_ne e]; exact ha.slot i u hi
theorem bK {b : Bool} (hj : (ops[j]?).bind (·.dst) = some t) (hb : Env.get E t = some (.bool b)) (hne : (b == want) = true)
  (k : L prog σ n ops (⟨d, op, ty, pos, aft, none⟩ :: rest) Q E P) : L prog σ n ops (⟨d, op, ty, pos, aft, some (j, want)⟩ :: rest) Q E P := fun a w ha hs => by
 have h := k a w ha hs
 unfold wpList at h ⊢
 have h1 : Region.wanted ⟨d, op, ty, pos, aft, some (j, want)⟩ (yielded ops a.tmps) = true := by
  simp only [Region.wanted, iZ ha hj hb]
  simpa using hne
 have h2 : Region.wanted ⟨d, op, ty, pos, aft, none⟩ (yielded ops a.tmps) = true := rfl
 rw [h1]
 rw [h2] at h
 exact h
theorem sO [Decidable p] (hj : (ops[j]?).bind (·.dst) = some t) (hb : Env.get E t = some (.bool (decide p)))
  (ht : p -> L prog σ n ops (⟨d, op, ty, pos, aft, none⟩ :: rest) Q E P) (hf : ¬ p -> L prog σ n ops rest Q E P) (hd : ∀ i, d = some i -> Env.get E i = none) : L prog σ n ops (⟨d, op, ty, pos, aft, some (j, true)⟩ :: rest) Q E P := by
 by_cases h : p
 ·exact bK hj hb (by simp [h]) (ht h)
 ·exact mc hj hb (by simp [h]) (hf h) hd
theorem il [Decidable p] (hj : (ops[j]?).bind (·.dst) = some t) (hb : Env.get E t = some (.bool (decide p)))
  (ht : ¬ p -> L prog σ n ops (⟨d, op, ty, pos, aft, none⟩ :: rest) Q E P) (hf : p -> L prog σ n ops rest Q E P) (hd : ∀ i, d = some i -> Env.get E i = none) : L prog σ n ops (⟨d, op, ty, pos, aft, some (j, false)⟩ :: rest) Q E P := by
 by_cases h : p
 ·exact mc hj hb (by simp [h]) (hf h) hd
 ·exact bK hj hb (by simp [h]) (ht h)
theorem cT [Decidable p] (h : p) (hj : (ops[j]?).bind (·.dst) = some t) (hb : Env.get E t = some (.bool (decide p)))
 (k : L prog σ n ops (⟨d, op, ty, pos, aft, none⟩ :: rest) Q E P) : L prog σ n ops (⟨d, op, ty, pos, aft, some (j, true)⟩ :: rest) Q E P := bK hj hb (by simp [h]) k
theorem cJ [Decidable p] (h : ¬ p) (hj : (ops[j]?).bind (·.dst) = some t) (hb : Env.get E t = some (.bool (decide p)))
 (k : L prog σ n ops rest Q E P) (hd : ∀ i, d = some i -> Env.get E i = none) : L prog σ n ops (⟨d, op, ty, pos, aft, some (j, true)⟩ :: rest) Q E P := mc hj hb (by simp [h]) k hd
theorem bR [Decidable p] (h : ¬ p) (hj : (ops[j]?).bind (·.dst) = some t) (hb : Env.get E t = some (.bool (decide p)))
 (k : L prog σ n ops (⟨d, op, ty, pos, aft, none⟩ :: rest) Q E P) : L prog σ n ops (⟨d, op, ty, pos, aft, some (j, false)⟩ :: rest) Q E P := bK hj hb (by simp [h]) k
theorem yL [Decidable p] (h : p) (hj : (ops[j]?).bind (·.dst) = some t) (hb : Env.get E t = some (.bool (decide p)))
 (k : L prog σ n ops rest Q E P) (hd : ∀ i, d = some i -> Env.get E i = none) : L prog σ n ops (⟨d, op, ty, pos, aft, some (j, false)⟩ :: rest) Q E P := mc hj hb (by simp [h]) k hd
section
variable (prog) (σ) (n)
def QL (ops : Array Oper) (rest : List Oper) (Qa : Act -> Prop) (E : Env) (P : ab) : Prop := ∀ a, Agree n E a -> wpQuiet prog ops (fun w => Sat σ w P) Qa rest a
end
variable {Qa : Act -> Prop}
theorem A5 {l : List Oper} (hm : prog.follows .mixedOrders = true) (hB : Region.lexB .any l.toArray = true)
  (h : QL prog σ n l.toArray l (fun a' => ∀ w', Sat σ w' P -> Q .normal a' w') E P) : J prog σ n (.region id l.toArray true) Q E P := fun a w ha hs =>
 wp_region_quiet (C := fun w => Sat σ w P) hm hB (hs.drawn _) (by simpa using h a ha)
theorem tX (h : K σ n Q .normal E P) : QL prog σ n ops [] (fun a' => ∀ w', Sat σ w' P -> Q .normal a' w') E P := fun a ha w' hs => h a w' ha hs
theorem gp {d : Nat} {op : Op} {ty : TypeId} {pos : String} {aft : Array Edge} {v : Value} (h : OpV prog σ n E P ⟨some d, op, ty, pos, aft, none⟩ v) (hd : Nat.blt d n = true) (k : QL prog σ n ops rest Qa ((d, v) :: E) P) :
  QL prog σ n ops (⟨some d, op, ty, pos, aft, none⟩ :: rest) Qa E P := fun a ha => by
 unfold wpQuiet
 rw [if_pos (show Region.wanted ⟨some d, op, ty, pos, aft, none⟩ (yielded ops a.tmps) = true from rfl)]
 refine ⟨v, fun w hw => ?_, k _ (ha.put (Nat.le_of_ble_eq_true hd) v)⟩
 unfold Oper.quietAt
 rw [h a w ha hw]
 exact ⟨rfl, rfl⟩
theorem qM {d : Option Nat} {op : Op} {ty : TypeId} {pos : String} {aft : Array Edge} {j t : Nat} {want b : Bool} (hj : (ops[j]?).bind (·.dst) = some t) (hb : Env.get E t = some (.bool b)) (hne : (b == want) = false)
  (k : QL prog σ n ops rest Qa E P) (hd : ∀ i, d = some i -> Env.get E i = none) : QL prog σ n ops (⟨d, op, ty, pos, aft, some (j, want)⟩ :: rest) Qa E P := fun a ha => by
 unfold wpQuiet
 have : Region.wanted ⟨d, op, ty, pos, aft, some (j, want)⟩ (yielded ops a.tmps) = false := by
  simp only [Region.wanted, iZ ha hj hb]
  simpa using hne
 rw [this]
 simp only [Bool.false_eq_true, if_false]
 refine k _ ?_
 cases d with
 | none => exact ha
 | some d =>
  refine ⟨ha.defers, by simp [Act.put, ha.size], fun i u hi => ?_⟩
  simp only [Act.put]
  by_cases e : d = i
  ·subst e; rw [hd d rfl] at hi; cases hi
  ·rw [Array.getElem?_setIfInBounds_ne e]; exact ha.slot i u hi
theorem df {b : Bool} (hj : (ops[j]?).bind (·.dst) = some t) (hb : Env.get E t = some (.bool b)) (hne : (b == want) = true)
  (k : QL prog σ n ops (⟨d, op, ty, pos, aft, none⟩ :: rest) Qa E P) : QL prog σ n ops (⟨d, op, ty, pos, aft, some (j, want)⟩ :: rest) Qa E P := fun a ha => by
 have h := k a ha
 unfold wpQuiet at h ⊢
 have h1 : Region.wanted ⟨d, op, ty, pos, aft, some (j, want)⟩ (yielded ops a.tmps) = true := by
  simp only [Region.wanted, iZ ha hj hb]
  simpa using hne
 have h2 : Region.wanted ⟨d, op, ty, pos, aft, none⟩ (yielded ops a.tmps) = true := rfl
 rw [h1]
 rw [h2] at h
 exact h
theorem Ih [Decidable p] (hj : (ops[j]?).bind (·.dst) = some t) (hb : Env.get E t = some (.bool (decide p)))
  (ht : p -> QL prog σ n ops (⟨d, op, ty, pos, aft, none⟩ :: rest) Qa E P) (hf : ¬ p -> QL prog σ n ops rest Qa E P) (hd : ∀ i, d = some i -> Env.get E i = none) : QL prog σ n ops (⟨d, op, ty, pos, aft, some (j, true)⟩ :: rest) Qa E P := by
 by_cases h : p
 ·exact df hj hb (by simp [h]) (ht h)
 ·exact qM hj hb (by simp [h]) (hf h) hd
theorem gF [Decidable p] (h : p) (hj : (ops[j]?).bind (·.dst) = some t) (hb : Env.get E t = some (.bool (decide p)))
 (k : QL prog σ n ops (⟨d, op, ty, pos, aft, none⟩ :: rest) Qa E P) : QL prog σ n ops (⟨d, op, ty, pos, aft, some (j, true)⟩ :: rest) Qa E P := df hj hb (by simp [h]) k
theorem fB [Decidable p] (h : ¬ p) (hj : (ops[j]?).bind (·.dst) = some t) (hb : Env.get E t = some (.bool (decide p)))
 (k : QL prog σ n ops rest Qa E P) (hd : ∀ i, d = some i -> Env.get E i = none) : QL prog σ n ops (⟨d, op, ty, pos, aft, some (j, true)⟩ :: rest) Qa E P := qM hj hb (by simp [h]) k hd
def dN (B : List Nat) (listed : Array Bool) : Bool := B.all fun b => !listed.getD b false
theorem jn {listed : Array Bool} (hi : i ∉ B) : dN B (listed.setIfInBounds i true) = dN B listed := by
 unfold dN
 induction B with
 | nil => rfl
 | cons b B ih =>
  simp only [List.mem_cons, not_or] at hi
  rw [List.all_cons, List.all_cons, ih hi.2, getD_set_ne false hi.1]
def kF (P : Program) (ops : Array Oper) (Q : Exit -> Act -> World -> Prop) (S0 S : World -> Prop) (B : List Nat) : Nat -> Array Bool -> Act -> World -> Prop
 | 0, listed, a, w => Region.ready .any ops listed = [] /\ Q .normal a w
 | fuel + 1, listed, a, w =>
  (Region.ready .any ops listed = [] -> Q .normal a w) /\
  ∀ i ∈ Region.ready .any ops listed, wpOp P ops Q i (fun a' w' => (S0 w' /\ (dN B (listed.setIfInBounds i true) = true -> S w')) /\ kF P ops Q S0 S B fuel (listed.setIfInBounds i true) a' w') a w
theorem kE {S0 S : World -> Prop} {B : List Nat} : ∀ (fuel : Nat) (listed : Array Bool) (a : Act) (w : World), kF prog ops Q S0 S B fuel listed a w -> wpAny prog .any ops Q fuel listed a w
 | 0, _, _, _, h => h
 | fuel + 1, _, _, _, h => ⟨h.1, fun i hi => wpOp_mono (fun a' w' h' => kE fuel _ a' w' h'.2) (h.2 i hi)⟩
def lg (ops : Array Oper) (B : List Nat) (i : Nat) : Bool := B.all fun b => !Nat.beq b i && match ops[b]? with
 | some o => o.after.any fun e => Region.binds .any e && e.on == i
 | none => true
theorem oE (h : lg ops B i = true) : i ∉ B /\ ∀ b ∈ B, ∀ o, ops[b]? = some o -> ∃ e ∈ o.after, Region.binds .any e = true /\ e.on = i := by
 simp only [lg, List.all_eq_true, Bool.and_eq_true, Bool.not_eq_true'] at h
 refine ⟨fun hi => ?_, fun b hb o ho => ?_⟩
 ·have := (h i hi).1
  rw [Nat.beq_refl] at this
  cases this
 ·have := (h b hb).2
  rw [ho] at this
  obtain ⟨e, he, hb⟩ := Array.any_eq_true'.1 this
  simp only [Bool.and_eq_true, beq_iff_eq] at hb
  exact ⟨e, he, hb.1, hb.2⟩
theorem i0 {S0 S : World -> Prop} {B : List Nat} {i : Nat} {oi : Oper} {v : Value} (pS : Bool) (hi : ops[i]? = some oi) (hsel : ∀ (j : Nat) (o : Oper) cs b, ops[j]? = some o -> o.op ≠ .select cs b)
  (hQ : ∀ c a w, Q (.panic c) (a.put oi.dst v) w -> Q (.panic c) a w) (hiB : i ∉ B) (hB : pS = true -> ∀ b ∈ B, ∀ o, ops[b]? = some o -> ∃ e ∈ o.after, Region.binds .any e = true /\ e.on = i) :
  ∀ (fuel : Nat) (listed : Array Bool) (a : Act) (w : World),
   (∀ j oj, ops[j]? = some oj -> j ≠ i -> listed.getD j true = false -> (∀ e ∈ oj.after, Region.binds .any e = true -> e.on ≠ i) -> oi.apart ops oj = true) ->
   i ∈ Region.ready .any ops listed -> YieldsIf prog ops (fun w => S0 w /\ (pS = true -> S w)) oi v a -> (pS = true -> dN B listed = true) -> S0 w -> (dN B listed = true -> S w) ->
   kF prog ops Q S0 S B fuel (listed.setIfInBounds i true) (a.put oi.dst v) w -> kF prog ops Q S0 S B (fuel + 1) listed a w := by
 intro fuel
 induction fuel with
 | zero =>
  intro listed a w _ hr hy hc hS0 hS H
  refine ⟨fun h => (by rw [h] at hr; cases hr), fun j hj => ?_⟩
  by_cases hji : j = i
  ·subst hji
   exact hy.wpOp hi ⟨hS0, fun h => hS (hc h)⟩ ⟨⟨hS0, fun h => hS (by rwa [jn hiB] at h)⟩, H⟩
  ·have := ready_mono hj hji
   rw [H.1] at this
   cases this
 | succ fuel ih =>
  intro listed a w hfree hr hy hc hS0 hS H
  refine ⟨fun h => (by rw [h] at hr; cases hr), fun j hj => ?_⟩
  by_cases hji : j = i
  ·subst hji
   exact hy.wpOp hi ⟨hS0, fun h => hS (hc h)⟩ ⟨⟨hS0, fun h => hS (by rwa [jn hiB] at h)⟩, H⟩
  ·have h1 := H.2 j (ready_mono hj hji)
   obtain ⟨hjun, oj, hoj, hall⟩ := mem_ready.1 hj
   have hiun : ∀ e ∈ oj.after, Region.binds .any e = true -> e.on ≠ i := fun e he hb heq => by
    have h1 := hall e he hb
    have h0 := (mem_ready.1 hr).1
    rw [heq] at h1
    rcases Nat.lt_or_ge i listed.size with h' | h'
    ·simp [h'] at h0 h1; rw [h0] at h1; cases h1
    ·simp [Array.getElem?_eq_none h'] at h1
   have hjB : pS = true -> j ∉ B := fun h hjb => by
    obtain ⟨e, he, hb, hon⟩ := hB h j hjb oj hoj
    exact hiun e he hb hon
   have h2 := wpOp_putIf hoj (hfree j oj hoj hji hjun hiun) (fun cs b => hsel i oi cs b hi) (fun cs b => hsel j oj cs b hoj) hQ hy h1
   have hfree' : ∀ k ok, ops[k]? = some ok -> k ≠ i -> (listed.setIfInBounds j true).getD k true = false ->
     (∀ e ∈ ok.after, Region.binds .any e = true -> e.on ≠ i) -> oi.apart ops ok = true := fun k ok hk hki hun hno => by
    refine hfree k ok hk hki ?_ hno
    by_cases hjk : j = k
    ·subst hjk; exact hjun
    ·rw [getD_set_ne true hjk] at hun; exact hun
   have hcl : ∀ l : Array Bool, dN B ((l.setIfInBounds i true).setIfInBounds j true) = dN B (l.setIfInBounds j true) := fun l => by
    rw [Array.setIfInBounds_comm _ _ (Ne.symm hji), jn hiB]
   refine wpOp_mono (fun a' w' h3 => ?_) h2
   have hS' : dN B (listed.setIfInBounds j true) = true -> S w' := fun h => h3.2.1.2 (by rw [hcl]; exact h)
   refine ⟨⟨h3.2.1.1, hS'⟩, ih (listed.setIfInBounds j true) a' w' hfree' (ready_mono hr (Ne.symm hji)) h3.1 (fun h => by rw [jn (hjB h)]; exact hc h) h3.2.1.1 hS' ?_⟩
   rw [Array.setIfInBounds_comm _ _ hji]
   exact h3.2.2
section
variable (prog) (σ) (n)
def Rg (ops : Array Oper) (Q : Exit -> Act -> World -> Prop) (S0 S : ab) (B : List Nat) (fuel : Nat) (listed : Array Bool) (E : Env) (P : ab) : Prop :=
 ∀ a w, Agree n E a -> Sat σ w P -> kF prog ops Q (fun w => Sat σ w S0) (fun w => Sat σ w S) B fuel listed a w
end
variable {S0 S : ab} {B : List Nat} {fuel : Nat} {listed : Array Bool}
theorem av {l : List Oper} (S0 S : ab) (B : List Nat) (hm : prog.follows .mixedOrders = true) (h : Rg prog σ n l.toArray Q S0 S B l.length (List.replicate l.length false).toArray E P) : J prog σ n (.region id l.toArray true) Q E P :=
 fun a w ha hs => wp_region_any hm (kE (S0 := fun w => Sat σ w S0) (S := fun w => Sat σ w S) (B := B) _ _ _ _ (by
  have := h a _ ha (hs.drawn (w.drawn + 1))
  simpa using this))
theorem DF (i : Nat) {d : Nat} [NP Q] [hS : Take P S R] [h0 : Take P S0 R0] (hi : ops[i]? = some ⟨some d, op, ty, pos, aft, none⟩) (hs : Region.noSelect ops = true) (hf : Region.free .any ops listed i = true)
  (hr : (Region.ready .any ops listed).contains i = true) (hB : lg ops B i = true) (hc : dN B listed = true) (h : OpV prog σ n E S ⟨some d, op, ty, pos, aft, none⟩ v) (hd : Nat.blt d n = true) (k : Rg prog σ n ops Q S0 S B fuel (listed.setIfInBounds i true) ((d, v) :: E) P) :
  Rg prog σ n ops Q S0 S B (fuel + 1) listed E P := fun a w ha hw => by
 have hSw : Sat σ w S := by have := hw; rw [hS.eq] at this; exact this.left
 obtain ⟨hiB, hB⟩ := oE hB
 refine i0 true hi (Region.noSelect_spec hs) (fun c a w h => absurd h (NP.no c _ w)) hiB (fun _ => hB) fuel listed a w (Region.free_spec hi hf) (by simpa using hr) (.inl ⟨rfl, fun w' hw' => h a w' ha (hw'.2 rfl)⟩) (fun _ => hc) (by have := hw; rw [h0.eq] at this; exact this.left) (fun _ => hSw) ?_
 exact k _ w (ha.put (Nat.le_of_ble_eq_true hd) v) hw
theorem yn (i : Nat) {d : Nat} [NP Q] [h0 : Take P S0 R0] (hi : ops[i]? = some ⟨some d, op, ty, pos, aft, none⟩) (hs : Region.noSelect ops = true) (hf : Region.free .any ops listed i = true)
  (hr : (Region.ready .any ops listed).contains i = true) (hiB : B.contains i = false) (hc : dN B listed = false \/ ∃ R, P = (aa (S) (R))) (h : OpV prog σ n E S0 ⟨some d, op, ty, pos, aft, none⟩ v) (hd : Nat.blt d n = true) (k : Rg prog σ n ops Q S0 S B fuel (listed.setIfInBounds i true) ((d, v) :: E) P) :
  Rg prog σ n ops Q S0 S B (fuel + 1) listed E P := fun a w ha hw => by
 refine i0 (v := v) false hi (Region.noSelect_spec hs) (fun c a w h => absurd h (NP.no c _ w)) (by simpa using hiB) (fun h => by cases h) fuel listed a w (Region.free_spec hi hf) (by simpa using hr) (.inl ⟨rfl, fun w' hw' => h a w' ha hw'.1⟩) (fun h => by cases h)
  (by have := hw; rw [h0.eq] at this; exact this.left) (fun hcl => ?_) ?_
 ·rcases hc with hc | ⟨R, hR⟩
  ·rw [hc] at hcl; cases hcl
  ·rw [hR] at hw; exact hw.left
 ·exact k _ w (ha.put (Nat.le_of_ble_eq_true hd) v) hw
theorem tU (i : Nat) {E' : X -> Env} {P' : X -> ab} (hi : ops[i]? = some o) (hg : o.guard = none) (hr : Region.ready .any ops listed = [i]) (h : OpX prog σ n E P o φ E' P')
  (hS0 : ∀ x, φ x -> ∃ R', P' x = (aa (S0) (R'))) (hS : dN B (listed.setIfInBounds i true) = false \/ ∀ x, φ x -> ∃ R', P' x = (aa (S) (R'))) (k : ∀ x, φ x -> Rg prog σ n ops Q S0 S B fuel (listed.setIfInBounds i true) (E' x) (P' x)) : Rg prog σ n ops Q S0 S B (fuel + 1) listed E P := fun a w ha hw => by
 refine ⟨fun h0 => absurd (hr ▸ h0) (by simp), fun j hj => ?_⟩
 rw [hr] at hj
 obtain rfl : j = i := by simpa using hj
 unfold wpOp
 rw [hi]
 simp only [Region.wanted, hg, if_true]
 refine .inl (h a w ha hw _ _ fun x a' w' hx ha' hw' => ⟨⟨by obtain ⟨R', hR⟩ := hS0 x hx; rw [hR] at hw'; exact hw'.left, fun hcl => ?_⟩, k x hx a' w' ha' hw'⟩)
 rcases hS with hS | hS
 ·rw [hS] at hcl; cases hcl
 ·obtain ⟨R', hR⟩ := hS x hx
  rw [hR] at hw'
  exact hw'.left
theorem fk (rs : List Nat) (hr : Region.ready .any ops listed = rs) (hne : rs.isEmpty = false)
  (h : ∀ i, i ∈ rs -> ∃ (o : Oper) (X : Type) (φ : X -> Prop) (E' : X -> Env) (P' : X -> ab), ops[i]? = some o /\ o.guard = none /\ OpX prog σ n E P o φ E' P' /\ ∀ x, φ x -> (∃ R', P' x = (aa (S0) (R'))) /\ (dN B (listed.setIfInBounds i true) = false \/ ∃ R', P' x = (aa (S) (R'))) /\ Rg prog σ n ops Q S0 S B fuel (listed.setIfInBounds i true) (E' x) (P' x)) :
  Rg prog σ n ops Q S0 S B (fuel + 1) listed E P := fun a w ha hw => by
 refine ⟨fun h0 => absurd (hr ▸ h0) (by rintro rfl; cases hne), fun j hj => ?_⟩
 rw [hr] at hj
 obtain ⟨o, X, φ, E', P', hi, hg, hx, k⟩ := h j hj
 unfold wpOp
 rw [hi]
 simp only [Region.wanted, hg, if_true]
 refine .inl (hx a w ha hw _ _ fun x a' w' hx' ha' hw' => ?_)
 obtain ⟨⟨R0, h0⟩, hS, k⟩ := k x hx'
 refine ⟨⟨by rw [h0] at hw'; exact hw'.left, fun hcl => ?_⟩, k a' w' ha' hw'⟩
 rcases hS with hS | ⟨R', hS⟩
 ·rw [hS] at hcl; cases hcl
 ·rw [hS] at hw'; exact hw'.left
theorem DG (hr : Region.ready .any ops listed = []) (h : K σ n Q .normal E P) : Rg prog σ n ops Q S0 S B fuel listed E P := fun a w ha hw => by
 cases fuel with
 | zero => exact ⟨hr, h a w ha hw⟩
 | succ fuel => exact ⟨fun _ => h a w ha hw, by rw [hr]; simp⟩
theorem kW (h : Rg prog σ n ops Q S0 S B fuel listed E P) : Rg prog σ n ops Q S0 S B fuel listed E (aa (emp) (P)) := by rw [bN]; exact h
end
section
variable {p : Option Addr} {t ty te : TypeId} {v : Value} {l vs first captured zs l' : List Value} {a : Act} {fx : Operand} {args : Array Operand} {tys : Array TypeId} {f : FuncId} {d o i m e b : Nat} {pos : String} {aft : Array Edge} {ws : Array Value} {P0 : ab} {X : Type} {ps : List (Nat × Value)} {pl : List (Nat × Nat)} {parts : Array (Nat × Operand)} {w : World} {φ : X -> Prop} {val : X -> Value} {Qo : X -> ab}
variable {prog : Program} {σ : World} {n : Nat} {Q : Exit -> Act -> World -> Prop} {E E' : Env} {P P' R F : ab} {ops : Array Oper} {rest : List Oper} {Qa : Act -> Prop}
def FO (prog : Program) (f : FuncId) : Bool := match prog.funcs[f]? with
 | some fn => fn.body.isSome && fn.name != "runtime.NumGoroutine"
 | none => false
class Fun (prog : Program) (f : FuncId) : Prop where
 b : FO prog f = true := by kernel_rfl
theorem Fun.spec (f : FuncId) [h : Fun prog f] : ∃ fn, prog.funcs[f]? = some fn /\ fn.body.isNone = false /\ (fn.name == "runtime.NumGoroutine") = false := by
 have := h.b
 unfold FO at this
 split at this
 ·rename_i fn hfn
  simp only [Bool.and_eq_true, bne_iff_ne] at this
  exact ⟨fn, hfn, by cases hb : fn.body <;> simp_all, by simpa using this.2⟩
 ·cases this
class Zer (prog : Program) (t : TypeId) (zs : outParam (List Value)) : Prop where
 b : ((prog.info? t).bind (·.zero)).map (fun z => z.cells.toList) = some zs := by kernel_rfl
theorem Zer.spec (t : TypeId) (zs : List Value) [h : Zer prog t zs] : ∃ i z, prog.info? t = some i /\ i.zero = some z /\ z.cells.toList = zs := by
 have := h.b
 cases hi : prog.info? t with
 | none => simp [hi] at this
 | some i =>
  cases hz : i.zero with
  | none => simp [hi, hz] at this
  | some z => simp only [hi, hz, Option.bind_some, Option.map_some, Option.some.injEq] at this; exact ⟨i, z, rfl, hz, this⟩
class Byt (prog : Program) (t : TypeId) (B : outParam Nat) : Prop where
 b : oI prog t (fun i => Nat.beq i.bytes B) = true := by kernel_rfl
theorem Byt.spec (t : TypeId) (B : Nat) [h : Byt prog t B] : ∃ i, prog.info? t = some i /\ i.bytes = B := by
 obtain ⟨i, hi, h1⟩ := fY h.b
 exact ⟨i, hi, Nat.eq_of_beq_eq_true h1⟩
class Sca (v : Value) : Prop where
 c : v.cells = #[v]
 o : v.oneCell' = true
instance {k : IntKind} {m : Int} : Sca (.int k m) := ⟨rfl, rfl⟩
instance {b : Bool} : Sca (.bool b) := ⟨rfl, rfl⟩
instance {s : ByteArray} : Sca (.string s) := ⟨rfl, rfl⟩
instance : Sca (.pointer p) := ⟨rfl, rfl⟩
instance {l c : Nat} : Sca (.slice p l c) := ⟨rfl, rfl⟩
instance {p : Option Nat} : Sca (.map p) := ⟨rfl, rfl⟩
instance {f : Fn} {a c : Array Value} : Sca (.func f a c) := ⟨rfl, rfl⟩
instance : Sca (.iface t v) := ⟨rfl, rfl⟩
class Cel (v : Value) (l : outParam (List Value)) : Prop where
 c : v.cells = l.toArray
instance (priority := 100) [h : Sca v] : Cel v [v] := ⟨h.c⟩
instance (priority := 200) : Cel (.agg l.toArray) l := ⟨rfl⟩
theorem Agree.evls (h : Agree n E a) {l : Array Operand} (hl : SLA.evl E l.toList = some vs) : l.map a.eval = vs.toArray := by
 rw [<- h.evl hl]; exact Array.toList_inj.1 (by rw [Array.toList_map])
theorem lu (f : FuncId) [Fun prog f] (args : Array Value) (w : World) : (callFunc f args).run prog w = .ok (.enter f args) w := by
 obtain ⟨fn, h1, h2, h3⟩ := Fun.spec (prog := prog) f
 unfold callFunc
 simp only [Sem.run_bind, run_program, Result.andThen_ok, h1, h2, h3, Bool.false_eq_true, if_false, Sem.run_pure]
theorem nI {o : Oper} [Fun prog f] (ha : Agree n E a) (ho : o.op = .call ⟨.value fx, args, tys⟩)
  (hf : ev E fx = some (.func (.func f) first.toArray captured.toArray)) (hv : evl E args.toList = some vs) (w : World) : (execOp a.eval o).run prog w = .ok (.enter f (first ++ vs ++ captured).toArray) w := by
 unfold execOp
 simp only [ho, resolve, Deferred.ofValue, ha.ev hf, ha.evls hv, Sem.run_bind, Sem.run_pure, Result.andThen_ok, invoke, lu]
 simp
theorem fq {g : Option (Nat × Bool)}
  (hs : FSpec prog f ws P0 φ val Qo) (hf : ev E fx = some (.func (.func f) first.toArray captured.toArray)) (hv : evl E args.toList = some vs) (hw : (first ++ vs ++ captured).toArray = ws) (hd : Nat.blt d n = true) [Fun prog f] [hT : Take P P0 R] :
  OpX prog σ n E P ⟨some d, .call ⟨.value fx, args, tys⟩, ty, pos, aft, g⟩ φ (fun x => (d, val x) :: E) (fun x => (aa (Qo x) (R))) := by
 intro a w ha hw' Kn Q' hk
 unfold Oper.wp
 rw [nI ha rfl hf hv w, Oper.upon_enter, hw]
 rw [hT.eq] at hw'
 refine (hs σ w R hw').mono ?_
 rintro e w'' ⟨x, hx, rfl, hx'⟩
 exact hk x _ _ hx (ha.put (Nat.le_of_ble_eq_true hd) _) hx'
theorem ai {g : Option (Nat × Bool)}
  (hs : FSpec prog f ws P0 φ val Qo) (hv : evl E args.toList = some vs) (hw : vs.toArray = ws) (hd : Nat.blt d n = true) [Fun prog f] [hT : Take P P0 R] :
  OpX prog σ n E P ⟨some d, .call ⟨.value (.func f), args, tys⟩, ty, pos, aft, g⟩ φ (fun x => (d, val x) :: E) (fun x => (aa (Qo x) (R))) :=
 fq (first := []) (captured := []) hs rfl hv (by simpa using hw) hd
theorem dy
  (hs : FSpec prog f ws P0 φ val Qo) (hv : evl E args.toList = some vs) (hw : vs.toArray = ws) (hval : ∀ x, φ x -> val x = v) (hq : ∀ x, φ x -> Ent (Qo x) P0) (hd : Nat.blt d n = true) [Fun prog f] [hT : Take P P0 R]
  (k : QL prog σ n ops rest Qa ((d, v) :: E) P) : QL prog σ n ops (⟨some d, .call ⟨.value (.func f), args, tys⟩, ty, pos, aft, none⟩ :: rest) Qa E P := fun a ha => by
 unfold wpQuiet
 rw [if_pos (show Region.wanted ⟨some d, _, ty, pos, aft, none⟩ (yielded ops a.tmps) = true from rfl)]
 refine ⟨v, fun w hsw => ?_, k _ (ha.put (Nat.le_of_ble_eq_true hd) v)⟩
 unfold Oper.quietAt
 rw [nI (first := []) (captured := []) ha rfl rfl hv w]
 refine ⟨rfl, ?_⟩
 rw [List.nil_append, List.append_nil, hw]
 have hsw' := hsw
 rw [hT.eq] at hsw'
 refine (hs σ w R hsw').mono ?_
 rintro e w'' ⟨x, hx, rfl, hx'⟩
 refine ⟨by rw [hval x hx], ?_⟩
 show Sat σ w'' P
 rw [hT.eq]
 exact hx'.ent ((hq x hx).frame R)
section
variable {d : Nat} {ty : TypeId} {pos : String} {aft : Array Edge} {g : Option (Nat × Bool)} {x y z : Operand} {t t' : TypeId} {k : IntKind} {v u : Value}
theorem bq [Zer prog t zs] (hd : Nat.blt d n = true) :
  OpX prog σ n E P ⟨some d, .alloc t, ty, pos, aft, g⟩ (fun _ : Nat => True) (fun b => (d, .pointer (some (ad b 0))) :: E) (fun b => (aa (am b zs t) (P))) := by
 refine bI rfl hd fun a w ha hs => ?_
 obtain ⟨i, z, h1, h2, h3⟩ := Zer.spec (prog := prog) t zs
 refine ⟨w.heap.size, w.alloc (.cells zs.toArray t), trivial, ?_, hs.alloc _⟩
 simp only [execOp, Instr.alloc, zeroValue, Sem.run_bind, cP h1, Result.andThen_ok, h2, Sem.run_pure, newVar, newRow, run_newObj]
 rw [<- h3]
 rfl
theorem aV [hc : Cel v l] (hx : ev E x = some v) (hd : Nat.blt d n = true) :
  OpX prog σ n E P ⟨some d, .box t x, ty, pos, aft, g⟩ (fun _ : Nat => True) (fun b => (d, .pointer (some (ad b 0))) :: E) (fun b => (aa (am b l t) (P))) := by
 refine bI rfl hd fun a w ha hs => ?_
 refine ⟨w.heap.size, w.alloc (.cells l.toArray t), trivial, ?_, hs.alloc _⟩
 simp only [execOp, ha.ev hx, Instr.box, Sem.run_bind, newVar, newRow, run_newObj, Result.andThen_ok, Sem.run_pure, hc.c]
 rfl
def evp (E : Env) : List (Nat × Operand) -> Option (List (Nat × Value))
 | [] => some []
 | (i, x) :: l => match ev E x, evp E l with
  | some v, some vs => some ((i, v) :: vs)
  | _, _ => none
theorem Agree.evp {a : Act} (h : Agree n E a) : ∀ {l : List (Nat × Operand)} {vs : List (Nat × Value)}, evp E l = some vs -> l.map (fun (i, x) => (i, a.eval x)) = vs
 | [], vs, hl => by simpa [SLA.evp] using hl
 | (i, x) :: l, vs, hl => by
  simp only [SLA.evp] at hl
  split at hl
  ·rename_i v us hv hus
   simp only [Option.some.injEq] at hl
   subst hl
   rw [List.map_cons, h.evp hus]
   dsimp only
   rw [h.ev hv]
  ·cases hl
class Spl (l : List Value) (o : Nat) (vs : List Value) (l' : outParam (List Value)) : Prop where
 eq : l' = l.take o ++ vs ++ l.drop (o + vs.length)
 le : o + vs.length <= l.length
instance : Spl l 0 [] l := ⟨by simp, by simp⟩
instance {x : Value} [h : Spl l 0 vs l'] : Spl (x :: l) 0 (v :: vs) (v :: l') := ⟨by
 have := h.eq; simp only [List.take_zero, List.nil_append, Nat.zero_add] at this; simp [this], by have := h.le; simp; omega⟩
instance {x : Value} [h : Spl l o vs l'] : Spl (x :: l) (o + 1) vs (x :: l') := ⟨by
 have := h.eq; rw [show o + 1 + vs.length = (o + vs.length) + 1 by omega]; simp [this], by have := h.le; simp; omega⟩
theorem vq (vs : List Value) : ∀ (o j : Nat) (l : List Value), o + j + vs.length <= l.length ->
  (vs.zipIdx j).foldl (fun (cs : Array Value) (c : Value × Nat) => cs.setIfInBounds (o + c.2) c.1) l.toArray = (l.take (o + j) ++ vs ++ l.drop (o + j + vs.length)).toArray := by
 induction vs with
 | nil => intro o j l h; simp
 | cons v vs ih =>
  intro o j l h
  simp only [List.length_cons] at h
  rw [List.zipIdx_cons, List.foldl_cons]
  have e : l.toArray.setIfInBounds (o + j) v = (l.set (o + j) v).toArray := by simp
  dsimp only
  rw [e, ih o (j + 1) _ (by simp; omega)]
  congr 1
  rw [show o + (j + 1) = o + j + 1 by omega, List.length_cons, show o + j + 1 + vs.length = o + j + (vs.length + 1) by omega]
  have h1 : (l.set (o + j) v).take (o + j + 1) = l.take (o + j) ++ [v] := by
   rw [List.take_succ_eq_append_getElem (by simp; omega), List.take_set_of_le (Nat.le_refl _)]
   simp
  have h2 : (l.set (o + j) v).drop (o + j + (vs.length + 1)) = l.drop (o + j + (vs.length + 1)) := List.drop_set_of_lt (by omega)
  rw [h1, h2]
  simp
theorem vp (vs : List Value) (f : Array Value -> Value × Nat -> Array Value) (z : Array Value) : vs.toArray.zipIdx.foldl f z = (vs.zipIdx 0).foldl f z := by
 rw [<- Array.foldl_toList, Array.toList_zipIdx]
theorem kg {place : Nat -> Option (Nat × Nat)} (hp : place i = some (o, m)) (hc : v.cells = vs.toArray) (hl : vs.length = m) (hle : o + m <= l.length) :
  Instr.fill place l.toArray ((i, v) :: ps) = Instr.fill place (l.take o ++ vs ++ l.drop (o + m)).toArray ps := by
 subst hl
 have h2 := vq vs o 0 l (by simpa using hle)
 simp only [Nat.add_zero] at h2
 have h3 : ¬ (o + vs.length > l.length) := by omega
 rw [Instr.fill]
 simp only [hp, hc, List.size_toArray]
 have hb : (vs.length != vs.length || decide (o + vs.length > l.length)) = false := by simp [h3]
 split
 ·rename_i hh
  exfalso
  simp at hh
  omega
 ·rw [vp, h2]
class Fil (pl : List (Nat × Nat)) (l : List Value) (ps : List (Nat × Value)) (l' : outParam (List Value)) : Prop where
 eq : Instr.fill (fun i => pl[i]?) l.toArray ps = some l'.toArray
instance : Fil pl l [] l := ⟨rfl⟩
class Plc (pl : List (Nat × Nat)) (i : Nat) (o m : outParam Nat) : Prop where
 eq : pl[i]? = some (o, m)
instance : Plc ((o, m) :: pl) 0 o m := ⟨rfl⟩
instance {x : Nat × Nat} [h : Plc pl i o m] : Plc (x :: pl) (i + 1) o m := ⟨h.eq⟩
class Len (l : List Value) (m : Nat) : Prop where
 eq : l.length = m
instance : Len [] 0 := ⟨rfl⟩
instance {x : Value} [h : Len l m] : Len (x :: l) (m + 1) := ⟨by simp [h.eq]⟩
instance {l1 : List Value} [hp : Plc pl i o m] [hc : Cel v vs] [hl : Len vs m] [hs : Spl l o vs l1] [hf : Fil pl l1 ps l'] : Fil pl l ((i, v) :: ps) l' := ⟨by
 have h1 := hs.le
 have h2 := hl.eq
 rw [kg hp.eq hc.c h2 (by omega), <- hf.eq, hs.eq, h2]⟩
class Pls (prog : Program) (t : TypeId) (pl : outParam (List (Nat × Nat))) : Prop where
 b : i2 prog t (fun | .struct fs => (fs.toList.map fun f => (f.offset, (prog.info? f.type).map (·.size))) == pl.map fun (o, m) => (o, some m) | _ => false) = true := by kernel_rfl
theorem nH (w : World) : ∀ (fs : List Field) (pl : List (Nat × Nat)), (fs.map fun f => (f.offset, (prog.info? f.type).map (·.size))) = (pl.map fun (o, m) => (o, some m)) ->
  (fs.mapM (m := Sem) fun f => do pure (f.offset, <- sizeOf f.type)).run prog w = .ok pl w
 | [], [], _ => rfl
 | [], _ :: _, h => by simp at h
 | _ :: _, [], h => by simp at h
 | f :: fs, (o, m) :: pl, h => by
  simp only [List.map_cons, List.cons.injEq, Prod.mk.injEq] at h
  obtain ⟨⟨h1, h2⟩, h3⟩ := h
  cases hi : prog.info? f.type with
  | none => simp [hi] at h2
  | some i =>
   simp only [hi, Option.map_some, Option.some.injEq] at h2
   simp only [List.mapM_cons, Sem.run_bind, bk hi, Result.andThen_ok, Sem.run_pure, nH w fs pl h3, h1, h2]
theorem af {d : Option Tmp} [Zer prog t zs] [hp : Pls prog t pl] (he : evp E parts.toList = some ps) [hf : Fil pl zs ps l] :
  OpV prog σ n E P ⟨d, .build t parts, ty, pos, aft, g⟩ (.agg l.toArray) := fun a w ha _ => by
 obtain ⟨i, z, h1, h2, h3⟩ := Zer.spec (prog := prog) t zs
 obtain ⟨dd, hd, hb⟩ := cM hp.b
 split at hb
 ·rename_i fs
  have hb := eq_of_beq hb
  have hm : (fs.mapM (m := Sem) fun f => do pure (f.offset, <- sizeOf f.type)).run prog w = .ok pl.toArray w := by
   rw [Array.mapM_eq_mapM_toList, Sem.run_map, nH w _ _ hb]
   rfl
  have hps : (parts.map fun x => (x.1, a.eval x.2)) = ps.toArray := by rw [<- ha.evp he]; exact Array.toList_inj.1 (by rw [Array.toList_map])
  have hz : z.cells = zs.toArray := by rw [<- h3]
  have hfl : (fun i : Nat => pl.toArray[i]?) = fun i : Nat => pl[i]? := by funext i; simp
  simp only [execOp, Instr.build, zeroValue, Sem.run_bind, cP h1, Result.andThen_ok, h2, Sem.run_pure, ba hd, hm, hps, hz, hfl]
  rw [hf.eq]
  rfl
 ·cases hb
def kQ : Nat -> List Value -> List (Nat × Value)
 | _, [] => []
 | i, v :: l => (i, v) :: kQ (i + 1) l
theorem o7 : ∀ (vs : List Value) (k : Nat) (l : List Value), (∀ v ∈ vs, v.cells = #[v]) -> k + vs.length <= l.length ->
  Instr.fill (fun i => some (i * 1, 1)) l.toArray (kQ k vs) = some (l.take k ++ vs ++ l.drop (k + vs.length)).toArray
 | [], k, l, _, _ => by simp [kQ, Instr.fill]
 | v :: vs, k, l, h, hk => by
  simp only [List.length_cons] at hk
  have hv := h v (by simp)
  rw [kQ, kg (o := k) (m := 1) (vs := [v]) (by simp) hv rfl (by omega)]
  rw [o7 vs (k + 1) _ (fun u hu => h u (by simp [hu])) (by simp; omega)]
  congr 2
  have t1 : (l.take k ++ [v] ++ l.drop (k + 1)).take (k + 1) = l.take k ++ [v] := by
   rw [List.take_left' (by simp; omega)]
  have t2 : (l.take k ++ [v] ++ l.drop (k + 1)).drop (k + 1 + vs.length) = l.drop (k + (vs.length + 1)) := by
   rw [<- List.drop_drop, List.drop_left' (by simp; omega), List.drop_drop]
   congr 1
   omega
  rw [t1, t2, List.length_cons]
  simp
theorem m4 {len : Nat} [Slc prog t e 1] [Zer prog e zs] (he : evp E parts.toList = some (kQ 0 vs)) (hl : vs.length = len) (hlen : len <= 16777216) (h1 : ∀ v ∈ vs, v.cells = #[v]) (hd : Nat.blt d n = true) :
  OpX prog σ n E P ⟨some d, .buildSlice t len parts, ty, pos, aft, g⟩ (fun _ : Nat => True) (fun b => (d, .slice (some (ad b 0)) len len) :: E) (fun b => (aa (am b vs e) (P))) := by
 refine bI rfl hd fun a w ha hs => ?_
 obtain ⟨hu, i, hi, hsz⟩ := Slc.spec (prog := prog) t e 1
 obtain ⟨i', z, h1', h2, h3⟩ := Zer.spec (prog := prog) e zs
 refine ⟨w.heap.size, w.alloc (.cells vs.toArray e), trivial, ?_, hs.alloc _⟩
 have hps : (parts.map fun x => (x.1, a.eval x.2)) = (kQ 0 vs).toArray := by rw [<- ha.evp he]; exact Array.toList_inj.1 (by rw [Array.toList_map])
 have hf : ∀ zc : Array Value, Instr.fill (fun i => some (i * 1, 1)) ((Array.range (len * 1)).map (zc[· % zc.size]!)) (kQ 0 vs) = some vs.toArray := fun zc => by
  have := o7 vs 0 ((Array.range (len * 1)).map (zc[· % zc.size]!)).toList h1 (by simp [hl])
  rw [Array.toArray_toList] at this
  rw [this]
  simp [hl]
 have hsz' : (sizeOf e).run prog w = .ok 1 w := by rw [bk hi, hsz]
 have hle : ¬ (len * 1 > 2 ^ 24) := by omega
 simp only [execOp, Instr.buildSlice, Sem.run_bind, ba hu, Result.andThen_ok, hsz', hle, if_false, Sem.run_ite, Sem.run_pure, hps]
 by_cases h0 : len * 1 = 0
 ·simp only [h0, if_true, Result.andThen_ok]
  have := hf #[]
  rw [h0] at this
  rw [this]
  simp only [Sem.run_bind, newRow, run_newObj, Result.andThen_ok, Sem.run_pure]
  rfl
 ·simp only [h0, if_false, Sem.run_bind, zeroValue, cP h1', Result.andThen_ok, h2, Sem.run_pure, hf, newRow, run_newObj]
  rfl
theorem aq [Slc prog t e m] [Zer prog e zs] (hx : ev E x = some v) [hc : Cel v l] (hl : l.length = m) (hm : m <= 16777216) (h0 : m ≠ 0) (hd : Nat.blt d n = true) :
  OpX prog σ n E P ⟨some d, .buildSlice t 1 #[(0, x)], ty, pos, aft, g⟩ (fun _ : Nat => True) (fun b => (d, .slice (some (ad b 0)) 1 1) :: E) (fun b => (aa (am b l e) (P))) := by
 refine bI rfl hd fun a w ha hs => ?_
 obtain ⟨hu, i, hi, hsz⟩ := Slc.spec (prog := prog) t e m
 obtain ⟨i', z, h1', h2, h3⟩ := Zer.spec (prog := prog) e zs
 refine ⟨w.heap.size, w.alloc (.cells l.toArray e), trivial, ?_, hs.alloc _⟩
 have hf : ∀ zc : Array Value, Instr.fill (fun i => some (i * m, m)) ((Array.range (1 * m)).map (zc[· % zc.size]!)) [(0, v)] = some l.toArray := fun zc => by
  have := kg (place := fun i => some (i * m, m)) (l := ((Array.range (1 * m)).map (zc[· % zc.size]!)).toList) (i := 0) (v := v) (ps := []) (o := 0) (m := m) (vs := l) (by simp) hc.c hl (by simp)
  rw [Array.toArray_toList] at this
  rw [this, Instr.fill]
  simp
 have hsz' : (sizeOf e).run prog w = .ok m w := by rw [bk hi, hsz]
 have hle : ¬ (1 * m > 2 ^ 24) := by omega
 have h0' : ¬ (1 * m = 0) := by omega
 simp only [execOp, Instr.buildSlice, Sem.run_bind, ba hu, Result.andThen_ok, hsz', hle, if_false, Sem.run_ite, Sem.run_pure, h0', zeroValue, cP h1', h2, List.map_toArray, List.map_cons, List.map_nil, ha.ev hx]
 rw [hf]
 simp only [Sem.run_bind, newRow, run_newObj, Result.andThen_ok, Sem.run_pure]
 rfl
class Siz (prog : Program) (t : TypeId) (m : outParam Nat) : Prop where
 b : oI prog t (fun i => Nat.beq i.size m) = true := by kernel_rfl
theorem Siz.spec (t : TypeId) (m : Nat) [h : Siz prog t m] : ∃ i, prog.info? t = some i /\ i.size = m := by
 obtain ⟨i, hi, h1⟩ := fY h.b
 exact ⟨i, hi, Nat.eq_of_beq_eq_true h1⟩
theorem fM (h : Sat σ w (aa (am b l t) (R))) : Sat σ (w.setRow b l'.toArray) (aa (am b l' t) (R)) :=
 h.update (w' := w.setRow b l'.toArray) rfl rfl rfl (setRow_heap w b _ _ t _ h.blk) (fun k hk => setRow_other w b k _ hk)
theorem kM [Siz prog t m] (hs : Sat σ w (aa (am b l te) (R))) (hc : v.cells = vs.toArray) (hl : vs.length = m) (h1 : ∀ u ∈ vs, u.oneCell' = true) (hle : o + vs.length <= l.length) :
  (storeVar t (ad b o) v).run prog w = .ok () (w.setRow b (l.take o ++ vs ++ l.drop (o + vs.length)).toArray) := by
 obtain ⟨i, hi, h2⟩ := Siz.spec (prog := prog) t m
 unfold storeVar
 simp only [Sem.run_bind, bk hi, Result.andThen_ok, hc, List.size_toArray, hl, h2, ne_eq, not_true_eq_false, if_false, Sem.run_pure, Sem.run_ite]
 have := run_storeCells_at prog b o te vs 0 l.toArray w hs.blk (by simpa using hle) h1
 rw [hl] at this
 simpa [ad] using this
theorem aI [Siz prog t m] (hx : ev E x = some (.pointer (some (ad b o)))) (hy : ev E y = some v) [hc : Cel v vs] (hl : vs.length = m) (h1 : ∀ u ∈ vs, u.oneCell' = true) [hk : Look P b l te R] [hs : Spl l o vs l'] :
  OpX prog σ n E P ⟨none, .store t x y, ty, pos, aft, g⟩ (fun _ : Unit => True) (fun _ => E) (fun _ => (aa (am b l' te) (R))) := by
 refine gL rfl fun a w ha hw => ?_
 rw [hk.eq] at hw
 refine ⟨(), _, trivial, ?_, fM (l' := l') hw⟩
 have := kM (prog := prog) (t := t) (m := m) hw hc.c hl h1 hs.le
 simp only [execOp, ha.ev hx, ha.ev hy, Instr.storeAt, Instr.sureAddr, Sem.run_bind, Sem.run_pure, Result.andThen_ok, this, hs.eq]
theorem iv [Siz prog t m] (hx : ev E x = some (.pointer (some (ad b o)))) (hy : ev E y = some v) [hc : Cel v vs] (hl : vs.length = m) (h1 : ∀ u ∈ vs, u.oneCell' = true) [hk : Look P b l te R]
  (hle : o + vs.length <= l.length) (hl' : l' = l.take o ++ vs ++ l.drop (o + vs.length)) :
  OpX prog σ n E P ⟨none, .store t x y, ty, pos, aft, g⟩ (fun _ : Unit => True) (fun _ => E) (fun _ => (aa (am b l' te) (R))) := by
 refine gL rfl fun a w ha hw => ?_
 rw [hk.eq] at hw
 refine ⟨(), _, trivial, ?_, fM (l' := l') hw⟩
 have := kM (prog := prog) (t := t) (m := m) hw hc.c hl h1 hle
 simp only [execOp, ha.ev hx, ha.ev hy, Instr.storeAt, Instr.sureAddr, Sem.run_bind, Sem.run_pure, Result.andThen_ok, this, hl']
end
end
section
variable {X Y α : Type} {c : Code} {w0 w : World} {R P : ab} {o e m len cap B : Nat} {v : Value} {lo hi x : Operand} {A : Option Addr} {l pre post zs news : List Value} {f : FuncId} {args : Array Value} {ty te : TypeId} {pos : String} {aft : Array Edge} {φ : X -> Prop} {val : X -> Value} {Qo : X -> ab}
variable {prog : Program} {σ : World} {n : Nat} {Q : Exit -> Act -> World -> Prop} {E E' : Env} {P P' R F : ab} {ops : Array Oper} {rest : List Oper} {Qa : Act -> Prop}
theorem pC (P' : X -> ab) (φ : X -> Prop) (h : ∀ w, Sat σ w P -> ∃ x, φ x /\ Sat σ w (P' x)) (k : ∀ x, φ x -> J prog σ n c Q E (P' x)) : J prog σ n c Q E P :=
 fun a w ha hw => let ⟨x, hx, hs⟩ := h w hw; k x hx a w ha hs
class Old (P : ab) (w0 : outParam World) (R : outParam ab) : Prop where
 eq : P = (aa (old w0) (R))
instance (priority := 200) : Old (aa (old w0) (R)) w0 R := ⟨rfl⟩
theorem Rd.old [h : Old P w0 R] {b : Nat} (hv : w0.cell? (ad b o) = some v) : Rd P b o v := fun σ w hs => by
 rw [h.eq] at hs
 have hb : (ad b o).block < w0.heap.size := block_lt_of_cell hv
 rw [<- hv]
 exact World.cell?_of_block (hs.old_block b hb)
section
variable {d : Option Tmp} {ty : TypeId} {pos : String} {aft : Array Edge} {g : Option (Nat × Bool)} {x y z : Operand} {t t' : TypeId} {k k' : IntKind} {a b : Int} {v u : Value} {s r : ByteArray}
theorem fT {k : IntKind} {m : Int} {y : Nat} {c : BoundsCode} (h : 0 <= m /\ m <= y) : (Instr.sliceBound (.int k m) y c).run prog w = .ok m.toNat w := by
 simp only [Instr.sliceBound, asIntOf, Sem.run_bind, Sem.run_pure, Result.andThen_ok, Sem.run_ite]
 rw [if_pos h]
theorem kO [Str prog t] (hx : ev E x = some (.string s)) (hl : ev E lo = some (.int k a)) (hh : ev E hi = some (.int k' b)) (h : 0 <= a /\ a <= b /\ b <= s.size) :
  OpV prog σ n E P ⟨d, .slice t x (some lo) (some hi) none, ty, pos, aft, g⟩ (.string (s.extract a.toNat b.toNat)) := fun _ w ha _ => by
 simp only [execOp, ha.ev hx, Option.map_some, Option.map_none, ha.ev hl, ha.ev hh, Instr.sliceAt, Instr.slice, Sem.run_bind, ba (Str.spec (prog := prog) t), Result.andThen_ok, Option.isSome_none, Bool.false_eq_true, if_false, Instr.sliceBounds, Sem.run_pure,
  fT (prog := prog) (w := w) (k := k') (m := b) (y := s.size) ⟨by omega, by omega⟩, fT (prog := prog) (w := w) (k := k) (m := a) (y := b.toNat) ⟨by omega, by omega⟩, Sem.run_ite]
theorem gW [Str prog t] (hx : ev E x = some (.string s)) (hl : ev E lo = some (.int k a)) (h : 0 <= a /\ a <= s.size) :
  OpV prog σ n E P ⟨d, .slice t x (some lo) none none, ty, pos, aft, g⟩ (.string (s.extract a.toNat s.size)) := fun _ w ha _ => by
 simp only [execOp, ha.ev hx, Option.map_some, Option.map_none, ha.ev hl, Instr.sliceAt, Instr.slice, Sem.run_bind, ba (Str.spec (prog := prog) t), Result.andThen_ok, Option.isSome_none, Bool.false_eq_true, if_false, Instr.sliceBounds, Sem.run_pure,
  fT (prog := prog) (w := w) (k := k) (m := a) (y := s.size) ⟨by omega, by omega⟩, Sem.run_ite]
theorem dW [Str prog t] (hx : ev E x = some (.string s)) (hh : ev E hi = some (.int k' b)) (h : 0 <= b /\ b <= s.size) :
  OpV prog σ n E P ⟨d, .slice t x none (some hi) none, ty, pos, aft, g⟩ (.string (s.extract 0 b.toNat)) := fun _ w ha _ => by
 simp only [execOp, ha.ev hx, Option.map_some, Option.map_none, ha.ev hh, Instr.sliceAt, Instr.slice, Sem.run_bind, ba (Str.spec (prog := prog) t), Result.andThen_ok, Option.isSome_none, Bool.false_eq_true, if_false, Instr.sliceBounds, Sem.run_pure,
  fT (prog := prog) (w := w) (k := k') (m := b) (y := s.size) ⟨by omega, by omega⟩, Sem.run_ite]
def jF (A : Option Addr) (l h m size : Nat) : Value := .slice (if m = l then A else A.map (·.add (l * size))) (h - l) (m - l)
theorem iy (b o l h m size : Nat) : jF (some (ad b o)) l h m size = .slice (some (ad b (if m = l then o else o + l * size))) (h - l) (m - l) := by
 unfold jF
 split
 ·rfl
 ·simp [db]
theorem cZ [Slc prog t e m] (hx : ev E x = some (.slice A len cap)) (hl : ev E lo = some (.int k a)) (h : 0 <= a /\ a <= len) :
  OpV prog σ n E P ⟨d, .slice t x (some lo) none none, ty, pos, aft, g⟩ (jF A a.toNat len cap m) := fun _ w ha _ => by
 obtain ⟨h1, i, h2, h3⟩ := Slc.spec (prog := prog) t e m
 simp only [execOp, ha.ev hx, Option.map_some, Option.map_none, ha.ev hl, Instr.sliceAt, Instr.slice, Sem.run_bind, ba h1, Result.andThen_ok, Instr.sliceBounds, Sem.run_pure,
  fT (prog := prog) (w := w) (k := k) (m := a) (y := len) ⟨by omega, by omega⟩, bk h2, h3, jF]
theorem lF [Slc prog t e m] (hx : ev E x = some (.slice A len cap)) (hh : ev E hi = some (.int k' b)) (h : 0 <= b /\ b <= cap) :
  OpV prog σ n E P ⟨d, .slice t x none (some hi) none, ty, pos, aft, g⟩ (jF A 0 b.toNat cap m) := fun _ w ha _ => by
 obtain ⟨h1, i, h2, h3⟩ := Slc.spec (prog := prog) t e m
 simp only [execOp, ha.ev hx, Option.map_some, Option.map_none, ha.ev hh, Instr.sliceAt, Instr.slice, Sem.run_bind, ba h1, Result.andThen_ok, Instr.sliceBounds, Sem.run_pure,
  fT (prog := prog) (w := w) (k := k') (m := b) (y := cap) ⟨by omega, by omega⟩, bk h2, h3, jF]
theorem i6 {mx : Operand} {c : Int} {k'' : IntKind} [Slc prog t e m] (hx : ev E x = some (.slice A len cap)) (hh : ev E hi = some (.int k' b)) (hm : ev E mx = some (.int k'' c)) (h : 0 <= b /\ b <= c /\ c <= cap) :
  OpV prog σ n E P ⟨d, .slice t x none (some hi) (some mx), ty, pos, aft, g⟩ (jF A 0 b.toNat c.toNat m) := fun _ w ha _ => by
 obtain ⟨h1, i, h2, h3⟩ := Slc.spec (prog := prog) t e m
 simp only [execOp, ha.ev hx, Option.map_some, Option.map_none, ha.ev hh, ha.ev hm, Instr.sliceAt, Instr.slice, Sem.run_bind, ba h1, Result.andThen_ok, Instr.sliceBounds, Sem.run_pure,
  fT (prog := prog) (w := w) (k := k'') (m := c) (y := cap) ⟨by omega, by omega⟩, fT (prog := prog) (w := w) (k := k') (m := b) (y := c.toNat) ⟨by omega, by omega⟩, bk h2, h3, jF]
end
inductive Rep where
 | nil
 | at (b cap : Nat) (pre post : List Value)
def wX (e m : Nat) (v : Value) (len : Nat) (l : List Value) : Rep -> ab
 | .nil => lift (v = .slice none 0 0 /\ len = 0 /\ l = [])
 | .at b cap pre post => (aa (lift (v = .slice (some (ad b pre.length)) len cap /\ len <= cap /\ cap <= maxLen /\ l.length = len * m /\ (cap - len) * m <= post.length)) (am b (pre ++ l ++ post) e))
def Ow (e m : Nat) (v : Value) (len : Nat) (l : List Value) : ab := ex (wX e m v len l)
theorem fg {w : World} {e m len : Nat} {v : Value} {l : List Value} (h : Sat σ w (aa (Ow e m v len l) (P))) :
  (v = .slice none 0 0 /\ len = 0 /\ l = [] /\ Sat σ w P) \/
  ∃ b cap pre post, v = .slice (some (ad b pre.length)) len cap /\ len <= cap /\ cap <= maxLen /\ l.length = len * m /\ (cap - len) * m <= post.length /\ Sat σ w (aa (am b (pre ++ l ++ post) e) (P)) := by
 obtain ⟨r, hr⟩ := sat_ex.1 h
 cases r with
 | nil =>
  obtain ⟨⟨h1, h2, h3⟩, h4⟩ := sat_lift.1 hr
  exact .inl ⟨h1, h2, h3, h4⟩
 | «at» b cap pre post =>
  simp only [wX, ak] at hr
  obtain ⟨⟨h1, h2, h3, h4, h5⟩, h6⟩ := sat_lift.1 hr
  exact .inr ⟨b, cap, pre, post, h1, h2, h3, h4, h5, h6⟩
theorem Ow.nil (e m : Nat) : Ent emp (Ow e m (.slice none 0 0) 0 []) := gl fun h hh => ⟨.nil, ⟨rfl, rfl, rfl⟩, hh⟩
theorem Ow.mk {b : Nat} (h1 : v = .slice (some (ad b pre.length)) len cap) (h2 : len <= cap) (h3 : cap <= maxLen) (h4 : l.length = len * m) (h5 : (cap - len) * m <= post.length) : Ent (am b (pre ++ l ++ post) e) (Ow e m v len l) :=
 Ent.trans (Ent.lift ⟨h1, h2, h3, h4, h5⟩) (bh (f := wX e m v len l) (.at b cap pre post))
theorem Ow.lit {b : Nat} (h4 : l.length = len * m) (h3 : len <= maxLen) : Ent (am b l e) (Ow e m (.slice (some (ad b 0)) len len) len l) := by
 have := Ow.mk (e := e) (m := m) (len := len) (b := b) (cap := len) (v := .slice (some (ad b 0)) len len) (l := l) (pre := []) (post := []) rfl (Nat.le_refl _) h3 h4 (by simp)
 simpa using this
theorem BY (h0 : v = .slice none 0 0 -> len = 0 -> l = [] -> J prog σ n c Q E P)
  (h1 : ∀ b cap pre post, v = .slice (some (ad b (List.length pre))) len cap -> len <= cap -> cap <= maxLen -> l.length = len * m -> (cap - len) * m <= List.length post -> J prog σ n c Q E (aa (am b (pre ++ l ++ post) e) (P))) : J prog σ n c Q E (aa (Ow e m v len l) (P)) :=
 fun a w ha hw => by
  rcases fg hw with ⟨g1, g2, g3, g4⟩ | ⟨b, cap, pre, post, g1, g2, g3, g4, g5, g6⟩
  ·exact h0 g1 g2 g3 a w ha g4
  ·exact h1 b cap pre post g1 g2 g3 g4 g5 a w ha g6
theorem FSpec.ex {g : Y -> ab} (h : ∀ y, FSpec prog f args (g y) φ val Qo) : FSpec prog f args (SLA.ex g) φ val Qo :=
 fun σ w F hs => let ⟨y, hy⟩ := sat_ex.1 hs; h y σ w F hy
theorem cC {g : Y -> ab} (h : ∀ y, FSpec prog f args (aa (g y) (P)) φ val Qo) : FSpec prog f args (aa (SLA.ex g) (P)) φ val Qo :=
 fun σ w F hs => by
  rw [ak] at hs
  obtain ⟨y, hy⟩ := sat_ex.1 hs
  exact h y σ w F (by rw [ak]; exact hy)
theorem aO {p : Prop} (h : p -> FSpec prog f args P φ val Qo) : FSpec prog f args (aa (SLA.lift p) (P)) φ val Qo :=
 fun σ w F hs => by
  rw [ak] at hs
  obtain ⟨hp, hy⟩ := sat_lift.1 hs
  exact h hp σ w F hy
theorem FSpec.own (h0 : v = .slice none 0 0 -> len = 0 -> l = [] -> FSpec prog f args P φ val Qo)
  (h1 : ∀ b cap pre post, v = .slice (some (ad b (List.length pre))) len cap -> len <= cap -> cap <= maxLen -> l.length = len * m -> (cap - len) * m <= List.length post -> FSpec prog f args (aa (am b (pre ++ l ++ post) e) (P)) φ val Qo) : FSpec prog f args (aa (Ow e m v len l) (P)) φ val Qo :=
 fun σ w F hs => by
  rw [ak] at hs
  rcases fg hs with ⟨g1, g2, g3, g4⟩ | ⟨b, cap, pre, post, g1, g2, g3, g4, g5, g6⟩
  ·exact h0 g1 g2 g3 σ w F g4
  ·exact h1 b cap pre post g1 g2 g3 g4 g5 σ w F (by rw [ak]; exact g6)
theorem FSpec.conseq {P' : ab} {φ : Y -> Prop} {val : Y -> Value} {Qo : Y -> ab} {φ' : X -> Prop} {val' : X -> Value} {Qo' : X -> ab} (h : FSpec prog f args P' φ' val' Qo') (hp : Ent P P')
  (hq : ∀ x, φ' x -> ∃ y, φ y /\ val' x = val y /\ Ent (Qo' x) (Qo y)) : FSpec prog f args P φ val Qo :=
 fun σ w F hs => (h σ w F (hs.ent (hp.frame F))).mono fun e w' ⟨x, hx, he, hs'⟩ => let ⟨y, hy, hv, hent⟩ := hq x hx; ⟨y, hy, by rw [he, hv], hs'.ent (hent.frame F)⟩
theorem FSpec.eq (P' : ab) (e : P = P') (h : FSpec prog f args P' φ val Qo) : FSpec prog f args P φ val Qo := e ▸ h
theorem uu (h : Sat σ w (aa (Ow e m v len l) (P))) : ∃ A cap, v = .slice A len cap /\ len <= cap /\ cap <= maxLen /\ l.length = len * m := by
 rcases fg h with ⟨rfl, rfl, rfl, _⟩ | ⟨b, cap, pre, post, rfl, h2, h3, h4, _, _⟩
 ·exact ⟨none, 0, rfl, Nat.le_refl _, Nat.zero_le _, by simp⟩
 ·exact ⟨_, cap, rfl, h2, h3, h4⟩
theorem lK (pre l post : List α) (i : Nat) (h : i < l.length) : (pre ++ l ++ post)[pre.length + i]? = l[i]? := by
 rw [List.append_assoc, List.getElem?_append_right (by omega), show pre.length + i - pre.length = i by omega, List.getElem?_append_left h]
theorem lQ {α : Type} {enc : α -> List Value} {m : Nat} (hm : ∀ x, (enc x).length = m) : ∀ (q : List α) (i j : Nat) (x : α), q[i]? = some x -> j < m -> (q.flatMap enc)[i * m + j]? = (enc x)[j]?
 | [], i, j, x, h, _ => by simp at h
 | y :: q, 0, j, x, h, hj => by
  simp only [List.getElem?_cons_zero, Option.some.injEq] at h
  subst h
  rw [List.flatMap_cons, Nat.zero_mul, Nat.zero_add, List.getElem?_append_left (by rw [hm]; exact hj)]
 | y :: q, i + 1, j, x, h, hj => by
  rw [List.flatMap_cons, List.getElem?_append_right (by rw [hm, Nat.add_mul]; omega), hm, show (i + 1) * m + j - m = i * m + j by rw [Nat.add_mul]; omega]
  exact lQ hm q i j x (by simpa using h) hj
theorem jS {α : Type} {enc : α -> List Value} {m : Nat} (hm : ∀ x, (enc x).length = m) : ∀ (q : List α), (q.flatMap enc).length = q.length * m
 | [] => by simp
 | y :: q => by rw [List.flatMap_cons, List.length_append, hm, jS hm q, List.length_cons, Nat.add_mul]; omega
theorem gg {enc : α -> List Value} (hm : ∀ x, (enc x).length = m) {b : Nat} {q : List α} {t : TypeId} [h : Look P b (pre ++ q.flatMap enc ++ post) t R] {i j : Nat} {x : α} (hx : q[i]? = some x) (hj : (enc x)[j]? = some v) :
  Rd P b (pre.length + i * m + j) v := by
 have hjm : j < m := by
  rcases Nat.lt_or_ge j (enc x).length with h | h
  ·rw [<- hm x]; exact h
  ·rw [List.getElem?_eq_none h] at hj; cases hj
 have hi : i < q.length := by
  rcases Nat.lt_or_ge i q.length with h | h
  ·exact h
  ·rw [List.getElem?_eq_none h] at hx; cases hx
 refine aC (l := pre ++ q.flatMap enc ++ post) ?_
 rw [Nat.add_assoc, lK _ _ _ _ (by
  rw [jS hm]
  have : (i + 1) * m <= q.length * m := Nat.mul_le_mul_right _ (by omega)
  rw [Nat.add_mul] at this
  omega), lQ hm q i j x hx hjm, hj]
def Src (P : ab) (y : Value) (k : Nat) (news : List Value) : Prop :=
 (y = .slice none 0 0 /\ k = 0 /\ news = []) \/ ∃ b o c, y = .slice (some (ad b o)) k c /\ ∀ j u, news[j]? = some u -> Rd P b (o + j) u
theorem i3 {t k : Nat} {y : Value} [Slc prog t e m] [Zer prog e zs] [Byt prog e B] (hzl : zs.length = m) (hm : 0 < m) (hs : Sat σ w (aa (Ow e m v len l) (P)))
  (hsrc : Src (aa (Ow e m v len l) (P)) y k news) (hl : news.length = k * m) (h1 : ∀ u ∈ news, u.oneCell' = true) (h63 : len + k <= maxLen) (hB : (len + k) * B <= 140737488355328) :
  ∃ A c w', (Builtin.append_ #[t, t] ty #[v, y]).run prog w = .ok (.slice A (len + k) c) w' /\ Sat σ w' (aa (Ow e m (.slice A (len + k) c) (len + k) (l ++ news)) (P)) := by
 suffices hh : ∃ v' w', (Builtin.append_ #[t, t] ty #[v, y]).run prog w = .ok v' w' /\ Sat σ w' (aa (Ow e m v' (len + k) (l ++ news)) (P)) by
  obtain ⟨v', w', h1, h2⟩ := hh
  obtain ⟨A, c, rfl, _⟩ := uu h2
  exact ⟨A, c, w', h1, h2⟩
 obtain ⟨ht, i, hi, hsz⟩ := Slc.spec (prog := prog) t e m
 obtain ⟨i', z, hi', hz, hzc⟩ := Zer.spec (prog := prog) e zs
 obtain rfl : i = i' := Option.some.inj (hi.symm.trans hi')
 obtain ⟨i', hi'', hb⟩ := Byt.spec (prog := prog) e B
 obtain rfl : i = i' := Option.some.inj (hi.symm.trans hi'')
 have hzsz : z.cells.size = m := by rw [<- Array.length_toList, hzc, hzl]
 have hsmall : len + k <= 9223372036854775807 := by simp only [maxLen] at h63; omega
 -- a new array
 have fresh : ∀ (P' : ab), Sat σ w P' -> ∀ (olds : List Value) (old : Nat), olds.length = len * m -> old < len + k ->
   Sat σ (w.drew.alloc (.cells (olds.toArray ++ news.toArray ++ Builtin.zeroCells z.cells (grownCap w (len + k) old e - (len + k))) e))
    (aa (Ow e m (.slice (some ⟨w.heap.size, 0, none⟩) (len + k) (grownCap w (len + k) old e)) (len + k) (olds ++ news)) (P')) := by
  intro P' hP' olds old ho _
  have hge := grownCap_ge w (len + k) old e
  have hle := grownCap_le_maxLen w (len + k) old e h63
  have h2 := hP'.drew.alloc (.cells (olds.toArray ++ news.toArray ++ Builtin.zeroCells z.cells (grownCap w (len + k) old e - (len + k))) e)
  have e1 : (olds.toArray ++ news.toArray ++ Builtin.zeroCells z.cells (grownCap w (len + k) old e - (len + k))) = ([] ++ (olds ++ news) ++ (Builtin.zeroCells z.cells (grownCap w (len + k) old e - (len + k))).toList).toArray := by
   apply Array.toList_inj.1; simp
  rw [e1] at h2 ⊢
  refine h2.ent (Ent.frame (Ow.mk rfl hge hle (by rw [List.length_append, ho, hl, Nat.add_mul]) ?_) P')
  rw [Array.length_toList, size_zeroCells, hzsz]
  exact Nat.le_refl _
 rcases fg hs with ⟨rfl, rfl, rfl, hP⟩ | ⟨b, cap, pre, post, rfl, hc1, hc2, hc3, hc4, hP⟩
 ·rcases hsrc with ⟨rfl, rfl, rfl⟩ | ⟨sb, so, c, rfl, hr⟩
  ·refine ⟨.slice none 0 0, w, ?_, hs⟩
   simp [Builtin.append_, ba ht, bk hi, Builtin.lenOf, Builtin.firstCells]
  ·by_cases hk : k = 0
   ·subst hk
    have hn : news = [] := List.eq_nil_of_length_eq_zero (by simpa using hl)
    subst hn
    refine ⟨.slice none 0 0, w, ?_, hs⟩
    simp [Builtin.append_, ba ht, bk hi, Builtin.lenOf, Builtin.firstCells, loadCells, loadCellsFrom]
   ·have hr' := run_append_nil (P := prog) w t ty e i z ht hi hz (ad sb so) k c news (by rw [hl, hsz]) (fun j u hj => by rw [db]; exact hr j u hj σ w hs) (by omega) (by omega) (by rw [hb]; have := hB; simp only [Nat.zero_add] at this; omega)
    refine ⟨_, _, hr', ?_⟩
    have := fresh P hP [] 0 (by simp) (by omega)
    simpa using this
 ·have hold : ∀ j u, l[j]? = some u -> w.cell? ((ad b pre.length).add j) = some u := fun j u hj => by
   have hjl : j < l.length := by
    rcases Nat.lt_or_ge j l.length with h | h
    ·exact h
    ·rw [List.getElem?_eq_none h] at hj; cases hj
   rw [db, fZ hP, lK _ _ _ _ hjl, hj]
  rcases hsrc with ⟨rfl, rfl, rfl⟩ | ⟨sb, so, c, rfl, hr⟩
  ·refine ⟨_, w, ?_, by simpa using hs⟩
   simp [Builtin.append_, ba ht, bk hi, Builtin.lenOf, Builtin.firstCells, hc1, storeCells]
  ·by_cases hroom : len + k <= cap
   ·have hfc := run_firstCells_some (P := prog) w m k (ad sb so) k c news hl (fun j u hj => by rw [db]; exact hr j u hj σ w hs)
    have hlen : (pre ++ l ++ post).length = pre.length + len * m + post.length := by simp [hc3]; omega
    have hfit : pre.length + len * m + 0 + news.length <= (pre ++ l ++ post).toArray.size := by
     rw [List.size_toArray, hlen, hl]
     have : k * m <= (cap - len) * m := Nat.mul_le_mul_right _ (by omega)
     omega
    have hst := run_storeCells_at prog b (pre.length + len * m) e news 0 (pre ++ l ++ post).toArray w hP.blk hfit h1
    simp only [Nat.add_zero] at hst
    have e2 : (pre ++ l ++ post).take (pre.length + len * m) ++ news ++ (pre ++ l ++ post).drop (pre.length + len * m + news.length) = pre ++ (l ++ news) ++ post.drop news.length := by
     have a1 : (pre ++ l ++ post).take (pre.length + len * m) = pre ++ l := List.take_left' (by simp [hc3])
     have a2 : (pre ++ l ++ post).drop (pre.length + len * m + news.length) = post.drop news.length := by
      rw [<- List.drop_drop, List.drop_left' (by simp [hc3])]
     rw [a1, a2]; simp
    have hst' : (storeCells ((ad b pre.length).add (len * m)) news 0).run prog w = .ok () (w.setRow b (pre ++ (l ++ news) ++ post.drop news.length).toArray) := by
     rw [db, <- e2]; exact hst
    have h5 : Sat σ (w.setRow b (pre ++ (l ++ news) ++ post.drop news.length).toArray) (aa (am b (pre ++ (l ++ news) ++ post.drop news.length) e) (P)) := fM hP
    refine ⟨.slice (some (ad b pre.length)) (len + k) cap, w.setRow b (pre ++ (l ++ news) ++ post.drop news.length).toArray, ?_, ?_⟩
    ·simp only [Builtin.append_, List.getElem?_toArray, List.getElem?_cons_zero, List.getElem?_cons_succ, Sem.run_bind, ba ht, Result.andThen_ok, bk hi, Sem.run_pure, Builtin.lenOf, hsz, hroom, if_true, hfc, hst', Sem.run_ite, Bool.false_eq_true, if_false, Bool.not_false]
    ·refine h5.ent (Ent.frame (Ow.mk rfl hroom hc2 (by rw [List.length_append, hc3, hl, Nat.add_mul]) ?_) P)
     rw [List.length_drop, hl, show cap - (len + k) = (cap - len) - k by omega, Nat.sub_mul]
     omega
   ·have hr' := run_append_grow (P := prog) w t ty e i z ht hi hz (ad b pre.length) len cap l (by rw [hc3, hsz]) hold (ad sb so) k c news (by rw [hl, hsz]) (fun j u hj => by rw [db]; exact hr j u hj σ w hs) (by omega) (by omega) (growslice_fits (by omega) (by rw [hb]; exact hB))
    exact ⟨_, _, hr', fresh P hP.drop l cap hc3 (by omega)⟩
class FOwn (P : ab) (e m : Nat) (v : Value) (len : outParam Nat) (l : outParam (List Value)) (R : outParam ab) : Prop where
 eq : P = (aa (Ow e m v len l) (R))
instance (priority := 100) {A : ab} [h : FOwn P e m v len l R] : FOwn (aa (A) (P)) e m v len l (aa (A) (R)) := ⟨by rw [h.eq, aR]⟩
instance (priority := 150) {A B : ab} [h : FOwn (aa (A) (aa (B) (P))) e m v len l R] : FOwn (aa ((aa (A) (B))) (P)) e m v len l R := ⟨by rw [ak]; exact h.eq⟩
instance (priority := 200) : FOwn (aa (Ow e m v len l) (R)) e m v len l R := ⟨rfl⟩
theorem Src.lit {b : Nat} {k c : Nat} [Look P b l te R] : Src P (.slice (some (ad b 0)) k c) k l := .inr ⟨b, 0, c, rfl, fun j u h => by rw [Nat.zero_add]; exact aC h⟩
theorem cO {d : Nat} {y : Operand} {t k : Nat} {g : Option (Nat × Bool)} {u : Value} [Slc prog t e m] [Zer prog e zs] [Byt prog e B] (hx : ev E x = some v) (hy : ev E y = some u) [hT : FOwn P e m v len l R]
  (hsrc : Src (aa (Ow e m v len l) (R)) u k news) (hzl : zs.length = m) (hm : 0 < m) (hl : news.length = k * m) (h1 : ∀ u ∈ news, u.oneCell' = true) (h63 : len + k <= maxLen) (hB : (len + k) * B <= 140737488355328) (hd : Nat.blt d n = true) :
  OpX prog σ n E P ⟨some d, .call ⟨.builtin .append, #[x, y], #[t, t]⟩, ty, pos, aft, g⟩ (fun _ : Option Addr × Nat => True) (fun r => (d, .slice r.1 (len + k) r.2) :: E) (fun r => (aa (Ow e m (.slice r.1 (len + k) r.2) (len + k) (l ++ news)) (R))) := by
 refine bI rfl hd fun a w ha hw => ?_
 rw [hT.eq] at hw
 obtain ⟨A, c, w', hr, hs'⟩ := i3 (prog := prog) (t := t) (ty := ty) hzl hm hw hsrc hl h1 h63 hB
 refine ⟨(A, c), w', trivial, ?_, hs'⟩
 simp only [execOp, resolve, List.map_toArray, List.map_cons, List.map_nil, ha.ev hx, ha.ev hy, Sem.run_bind, Sem.run_pure, Result.andThen_ok, invoke, builtin, hr]
theorem ax {d : Option Tmp} {g : Option (Nat × Bool)} {t b : Nat} {vs : List Value} [Agg prog t m] (hx : ev E x = some (.pointer (some (ad b o)))) [Look P b l te R] [hc : CutL l o m vs] :
  OpV prog σ n E P ⟨d, .load t x, ty, pos, aft, g⟩ (.agg vs.toArray) := br hx hc.le fun j u hj => aC (by
 rw [<- hc.eq] at hj
 rw [List.getElem?_take] at hj
 split at hj
 ·rw [List.getElem?_drop] at hj; exact hj
 ·cases hj)
end
section
open Go.ChangeShapes Go.WideShapes Go.Deep
variable {r : Reach} {b0 D b o m len e c : Nat} {t : TypeId} {v : Value} {p : List MemPlace} {α : Type} {W : World} {A : Option Addr} {l : List Value} {en : α -> List Value} {xs : List α}
inductive CK where
 | int (k : IntKind)
 | bool
 | str
def CK.ok : CK -> Value -> Prop
 | .int k, v => ∃ n, v = .int k n /\ (Lit.int k n).wf = true
 | .bool, v => ∃ b, v = .bool b
 | .str, v => ∃ s : ByteArray, v = .string s /\ s.size <= maxLen
def gv (P : Program) (g : TypeId -> Option (List CK)) : List Field -> Nat -> Option (List CK)
 | [], _ => some []
 | f :: fs, off => match g f.type with
  | some k => if f.offset = off /\ P.cellsOf f.type = k.length then (gv P g fs (off + k.length)).map (k ++ ·) else none
  | none => none
def aP (P : Program) : Nat -> TypeId -> Option (List CK)
 | 0, _ => none
 | d + 1, t => match P.underlying t with
  | some (.int k) => some [.int k]
  | some .bool => some [.bool]
  | some .string => some [.str]
  | some (.struct fs) => match gv P (aP P d) fs.toList 0 with
   | some ks => if P.cellsOf t = ks.length then some ks else none
   | none => none
  | some (.array n e) => match aP P d e with
   | some k => if P.cellsOf e = k.length /\ P.cellsOf t = n * k.length then some (List.replicate n k).flatten else none
   | none => none
  | _ => none
def Kinds (ks : List CK) (cs : List Value) : Prop := cs.length = ks.length /\ ∀ (j : Nat) (k : CK), ks[j]? = some k -> ∃ v, cs[j]? = some v /\ k.ok v
theorem Kinds.append {k1 k2 : List CK} {c1 c2 : List Value} (h1 : Kinds k1 c1) (h2 : Kinds k2 c2) : Kinds (k1 ++ k2) (c1 ++ c2) := by
 refine ⟨by simp [h1.1, h2.1], fun j k hj => ?_⟩
 by_cases h : j < k1.length
 ·rw [List.getElem?_append_left h] at hj
  rw [List.getElem?_append_left (by rw [h1.1]; exact h)]
  exact h1.2 j k hj
 ·rw [List.getElem?_append_right (by omega)] at hj
  rw [List.getElem?_append_right (by rw [h1.1]; omega), h1.1]
  exact h2.2 _ k hj
theorem Kinds.nil : Kinds [] [] := ⟨rfl, fun j k h => by simp at h⟩
section
variable {H : Type} {enc : TypeId × Value -> H} {P : Program} {w : World} {base : Nat} {spare : Nat -> Bool} {held : Bool}
theorem oZ {g : TypeId -> Option (List CK)} {n : Nat} {cs : List Value}
  (hg : ∀ t ks cs x, g t = some ks -> DataW.trod enc P w base spare held n t cs = some x -> Kinds ks cs) :
  ∀ (fs : List Field) (off : Nat) (ks : List CK), gv P g fs off = some ks -> off + ks.length <= cs.length ->
   (∀ f ∈ fs, ∃ x, DataW.trod enc P w base spare held n f.type ((cs.drop f.offset).take (P.cellsOf f.type)) = some x) -> Kinds ks ((cs.drop off).take ks.length)
 | [], off, ks, h, _, _ => by simp only [gv, Option.some.injEq] at h; subst h; simpa using Kinds.nil
 | f :: fs, off, ks, h, hl, hx => by
  simp only [gv] at h
  split at h
  ·rename_i k hk
   split at h
   ·rename_i hc
    cases hr : gv P g fs (off + k.length) with
    | none => simp [hr] at h
    | some ks' =>
     simp only [hr, Option.map_some, Option.some.injEq] at h
     subst h
     simp only [List.length_append] at hl
     obtain ⟨x, hx1⟩ := hx f (by simp)
     have h1 := hg _ _ _ _ hk hx1
     rw [hc.1, hc.2] at h1
     have h2 := oZ hg fs (off + k.length) ks' hr (by omega) (fun f hf => hx f (by simp [hf]))
     have := h1.append h2
     have e : (cs.drop off).take k.length ++ (cs.drop (off + k.length)).take ks'.length = (cs.drop off).take (k ++ ks').length := by
      rw [List.length_append, List.take_add, List.drop_drop]
     rw [e] at this
     exact this
   ·cases h
  ·cases h
theorem nq : ∀ (d : Nat) (t : TypeId) (ks : List CK) (fuel : Nat) (cs : List Value) (x : DataW H × List MemPlace), aP P d t = some ks -> DataW.trod enc P w base spare held fuel t cs = some x -> Kinds ks cs
 | 0, _, _, _, _, _, h, _ => by simp [aP] at h
 | d + 1, t, ks, fuel, cs, x, h, ht => by
  simp only [aP] at h
  split at h
  ·rename_i k hu
   simp only [Option.some.injEq] at h; subst h
   obtain ⟨n, rfl, _, hw⟩ := DataW.trod_int hu ht
   exact ⟨rfl, fun j k' hj => by cases j with
    | zero => simp at hj; subst hj; exact ⟨_, rfl, n, rfl, hw⟩
    | succ j => simp at hj⟩
  ·rename_i hu
   simp only [Option.some.injEq] at h; subst h
   obtain ⟨b, rfl, _⟩ := DataW.trod_bool hu ht
   exact ⟨rfl, fun j k' hj => by cases j with
    | zero => simp at hj; subst hj; exact ⟨_, rfl, b, rfl⟩
    | succ j => simp at hj⟩
  ·rename_i hu
   simp only [Option.some.injEq] at h; subst h
   obtain ⟨s, rfl, _, hw⟩ := DataW.trod_string hu ht
   exact ⟨rfl, fun j k' hj => by cases j with
    | zero => simp at hj; subst hj; exact ⟨_, rfl, s, rfl, hw⟩
    | succ j => simp at hj⟩
  ·rename_i fs hu
   split at h
   ·rename_i ks' hks
    split at h
    ·rename_i hlen
     simp only [Option.some.injEq] at h; subst h
     obtain ⟨xs, n, rfl, rfl, hl, hxl, hf⟩ := DataW.trod_struct hu ht
     have := oZ (g := aP P d) (n := n) (cs := cs) (fun t ks cs x h1 h2 => nq d t ks n cs x h1 h2) fs.toList 0 ks' hks (by omega) (fun f hf' => by
      obtain ⟨i, hi⟩ := List.getElem?_of_mem hf'
      rw [Array.getElem?_toList] at hi
      have hlt : i < xs.length := by rw [hxl]; exact (Array.getElem?_eq_some_iff.1 hi).1
      exact ⟨xs[i], by rw [hf i f hi, List.getElem?_eq_getElem hlt]⟩)
     simp only [List.drop_zero] at this
     rwa [List.take_of_length_le (by omega)] at this
    ·cases h
   ·cases h
  ·rename_i n e hu
   split at h
   ·rename_i k hk
    split at h
    ·rename_i hc
     simp only [Option.some.injEq] at h; subst h
     obtain ⟨xs, m, rfl, rfl, hl, hxl, hf⟩ := DataW.trod_array hu ht
     have key : ∀ i, i <= n -> Kinds (List.replicate i k).flatten (cs.take (i * k.length)) := by
      intro i
      induction i with
      | zero => intro _; simpa using Kinds.nil
      | succ i ih =>
       intro hi
       have h1 := ih (by omega)
       have h2 := hf i (by omega)
       rw [hc.1, List.getElem?_eq_getElem (show i < xs.length by omega)] at h2
       have h3 := h1.append (nq d e k m _ _ hk h2)
       rw [List.replicate_succ', List.flatten_concat, Nat.add_mul, Nat.one_mul, List.take_add]
       exact h3
     have := key n (Nat.le_refl _)
     rwa [List.take_of_length_le (by omega)] at this
    ·cases h
   ·cases h
  ·cases h
theorem u6 {d : DataW H} {ks : List CK} (hk : aP P D t = some ks) (ha : i2 P t gS = true) (hv : Value.okWide P w r b0 t v) (h : DataW.Trod enc P w base spare held t v d p) :
  ∃ l : List Value, v = .agg l.toArray /\ Kinds ks l := by
 obtain ⟨fuel, hf⟩ := h
 have h1 := nq D t ks fuel _ _ hk hf
 obtain ⟨dd, hd, hb⟩ := cM ha
 have : ∃ cs, v = .agg cs := by
  simp only [Value.okWide, hd] at hv
  unfold gS at hb
  split at hb
  ·obtain ⟨cs, h1, _⟩ := hv; exact ⟨cs, h1⟩
  ·obtain ⟨cs, h1, _⟩ := hv; exact ⟨cs, h1⟩
  ·cases hb
 obtain ⟨cs, rfl⟩ := this
 exact ⟨cs.toList, by simp, h1⟩
theorem mV {α : Type} {Q : Nat -> α -> Prop} : ∀ (n : Nat), (∀ i, i < n -> ∃ x, Q i x) -> ∃ xs : List α, xs.length = n /\ ∀ i x, xs[i]? = some x -> Q i x
 | 0, _ => ⟨[], rfl, fun i x h => by simp at h⟩
 | n + 1, h => by
  obtain ⟨xs, hl, hx⟩ := mV n (fun i hi => h i (by omega))
  obtain ⟨y, hy⟩ := h n (by omega)
  refine ⟨xs ++ [y], by simp [hl], fun i x hi => ?_⟩
  by_cases hin : i < n
  ·rw [List.getElem?_append_left (by omega)] at hi; exact hx i x hi
  ·rw [List.getElem?_append_right (by omega)] at hi
   have : i = n := by
    rcases Nat.lt_or_ge (i - xs.length) 1 with h | h
    ·omega
    ·rw [List.getElem?_eq_none (by simpa using h)] at hi; cases hi
   subst this
   simp [hl] at hi
   subst hi
   exact hy
def pE (W : World) (enc : α -> List Value) (m : Nat) (A : Option Addr) (len : Nat) (xs : List α) : Prop :=
 xs.length = len /\ (len = 0 \/ ∃ b o, A = some (ad b o) /\ ∀ i x j u, xs[i]? = some x -> (enc x)[j]? = some u -> W.cell? (ad b (o + i * m + j)) = some u)
theorem rQ {e : TypeId} {d : DataW H} {ks : List CK} {ok : α -> Prop} (ht : P.underlying t = some (.slice e)) (hk : aP P D e = some ks) (hm : P.cellsOf e = ks.length) (hne : 0 < ks.length)
  (hdec : ∀ cs, Kinds ks cs -> ∃ x, cs = en x /\ ok x) (hv : Value.okWide P w r b0 t v) (h : DataW.Trod enc P w base spare held t v d p) :
  ∃ (A : Option Addr) (len cap : Nat) (xs : List α), v = .slice A len cap /\ len <= cap /\ cap <= maxLen /\ pE w en ks.length A len xs /\ ∀ x ∈ xs, ok x := by
 obtain ⟨A, len, cap, rfl⟩ := okWide_slice ht hv
 obtain ⟨fuel, hf⟩ := h
 rcases open_slice ht hf with ⟨hcs, _⟩ | ⟨a, l', c', m, n, Dd, Pl, hcs, _, hl, hc, hmm, _, hi⟩
 ·simp [Value.cells] at hcs
  obtain ⟨rfl, rfl, rfl⟩ := hcs
  exact ⟨none, 0, 0, [], rfl, Nat.le_refl _, Nat.zero_le _, ⟨rfl, .inl rfl⟩, fun x hx => by simp at hx⟩
 ·simp [Value.cells] at hcs
  obtain ⟨rfl, rfl, rfl⟩ := hcs
  have hlm : len <= m := by rw [hmm]; split <;> omega
  have hel : ∀ i, i < len -> ∃ x, (∀ j u, (en x)[j]? = some u -> w.cell? ((a.add (i * ks.length)).add j) = some u) /\ ok x /\ (en x).length = ks.length := fun i hil => by
   obtain ⟨cs', h1, h2⟩ := hi i (by omega)
   rw [hm] at h1
   obtain ⟨_, hlen, hat⟩ := World.cells?_some h1
   have hK := nq D e ks n _ _ hk h2
   obtain ⟨x, hx, hok⟩ := hdec cs' hK
   refine ⟨x, fun j u hj => ?_, hok, by rw [<- hx]; exact hK.1⟩
   rw [<- hx] at hj
   have hjl : j < ks.length := by
    rw [<- hlen]
    rcases Nat.lt_or_ge j cs'.length with h | h
    ·exact h
    ·rw [List.getElem?_eq_none h] at hj; cases hj
   rw [hat j hjl]; exact hj
  obtain ⟨xs, hxl, hx⟩ := mV len hel
  refine ⟨some a, len, cap, xs, rfl, hl, hc, ⟨hxl, ?_⟩, fun x hxm => ?_⟩
  ·by_cases h0 : len = 0
   ·exact .inl h0
   ·right
    have hsp : a.spot = none := by
     obtain ⟨x, h1, _, h3⟩ := hel 0 (by omega)
     have h4 := h1 0 ((en x)[0]'(by omega)) (List.getElem?_eq_getElem (by omega))
     have e : (a.add (0 * ks.length)).add 0 = a := by simp [Addr.add]
     rw [e] at h4
     unfold World.cell? at h4
     split at h4
     ·split at h4
      ·cases h4
      ·rename_i hs; simpa using hs
     ·cases h4
    obtain ⟨b, o, s⟩ := a
    simp only at hsp
    subst hsp
    refine ⟨b, o, rfl, fun i x j u hi hj => ?_⟩
    have := (hx i x hi).1 j u hj
    rwa [show (⟨b, o, none⟩ : Addr) = ad b o from rfl, db, db] at this
  ·obtain ⟨i, hi⟩ := List.getElem?_of_mem hxm
   exact (hx i x hi).2.1
end
theorem wj {prog : Program} {f : FuncId} {args : Array Value} (h : FSpec prog f args (old W) (fun _ : Unit => True) (fun _ => .bool true) (fun _ => old W)) :
  Calls prog f args W fun e w' => e = .returned (.bool true) /\ Go.RowKit.Below W.heap.size W w' :=
 (h W W emp (vU W)).mono fun e w' ⟨_, _, he, hs⟩ => ⟨he, hs.below⟩
variable {P R : ab} {w0 : World}
theorem bU {S : ab} [h : Take P S R] (hv : Rd S b o v) : Rd P b o v := fun σ w hs => by
 rw [h.eq] at hs
 exact hv σ w hs.left
structure RdS (S : ab) {α : Type} (en : α -> List Value) (m : Nat) (A : Option Addr) (xs : List α) : Prop where
 nonnil : ∀ k : Nat, k < xs.length -> ∃ b o, A = some (ad b o)
 rd : ∀ b o, A = some (ad b o) -> ∀ i x j u, xs[i]? = some x -> (en x)[j]? = some u -> Rd S b (o + i * m + j) u
theorem RdS.old (h : pE W en m A len xs) : RdS (old W) en m A xs := by
 obtain ⟨h1, h2⟩ := h
 rcases h2 with h2 | ⟨b, o, rfl, h3⟩
 ·have : xs = [] := List.eq_nil_of_length_eq_zero (by omega)
  subst this
  exact ⟨fun k hk => by simp at hk, fun b o _ i x j u hi => by simp at hi⟩
 ·refine ⟨fun _ _ => ⟨b, o, rfl⟩, fun b' o' e i x j u hi hj => ?_⟩
  simp only [Option.some.injEq, Addr.mk.injEq] at e
  obtain ⟨rfl, rfl, _⟩ := e
  have h4 : Rd (aa (SLA.old W) (emp)) b (o + i * m + j) u := Rd.old (R := emp) (h3 i x j u hi hj)
  intro σ w hs
  refine h4 σ w ?_
  rw [cR]; exact hs
theorem i4 {σ w : World} (h : Sat σ w (aa (Ow e m (.slice A len c) len l) (P))) : (A = none /\ c = 0 /\ len = 0 /\ l = []) \/ ∃ b o, A = some (ad b o) := by
 rcases fg h with ⟨h1, h2, h3, _⟩ | ⟨b, cap, pre, post, h1, _⟩
 ·simp only [Value.slice.injEq] at h1
  exact .inl ⟨h1.1, h1.2.2, h2, h3⟩
 ·simp only [Value.slice.injEq] at h1
  exact .inr ⟨_, _, h1.1⟩
theorem Rd.own {j : Nat} {u : Value} (h : l[j]? = some u) : Rd (Ow e m (.slice (some (ad b o)) len c) len l) b (o + j) u := fun σ w hs => by
 have hs' : Sat σ w (aa (Ow e m (.slice (some (ad b o)) len c) len l) (emp)) := by rw [cR]; exact hs
 rcases fg hs' with ⟨h1, _⟩ | ⟨b', cap, pre, post, h1, _, _, _, _, h6⟩
 ·cases h1
 ·simp only [Value.slice.injEq, Option.some.injEq, Addr.mk.injEq] at h1
  obtain ⟨⟨rfl, rfl, _⟩, _, _⟩ := h1
  have hj : j < l.length := by
   rcases Nat.lt_or_ge j l.length with h | h
   ·exact h
   ·rw [List.getElem?_eq_none h] at *; contradiction
  rw [fZ h6, lK _ _ _ _ hj, h]
theorem RdS.own (hm : ∀ x, (en x).length = m) (hA : xs = [] \/ ∃ b o, A = some (ad b o)) : RdS (Ow e m (.slice A xs.length c) xs.length (xs.flatMap en)) en m A xs := by
 refine ⟨fun k hk => ?_, fun b o e i x j u hi hj => ?_⟩
 ·rcases hA with rfl | h
  ·simp at hk
  ·exact h
 ·subst e
  have hjm : j < m := by
   rcases Nat.lt_or_ge j (en x).length with h | h
   ·rw [<- hm x]; exact h
   ·rw [List.getElem?_eq_none h] at hj; cases hj
  rw [Nat.add_assoc]
  exact Rd.own (by rw [lQ hm xs i j x hi hjm, hj])
end
end Go.SLA
