/- An argument that is a slice of elements whose reading is given: structs that hold slices. -/
import Derived.Test.YtdmlcnecildliaaH
set_option linter.unusedVariables false
set_option linter.unusedSimpArgs false
namespace Go.SLA
open Go.ChangeShapes Go.WideShapes Go.Deep
section
variable {H : Type} {enc : TypeId × Value → H} {P : Program} {w : World} {base : Nat} {spare : Nat → Bool} {held : Bool}
theorem open_arrC {t e : TypeId} {α : Type} {en : α → List Value} {ok : α → Prop} {m : Nat} {fuel : Nat} {cs : List Value} {y : DataW H × List MemPlace} (ht : P.underlying t = some (.slice e)) (hm : P.cellsOf e = m) (hne : 0 < m) (hlen : ∀ x, (en x).length = m)
    (hdec : ∀ n cs y, DataW.trod enc P w base spare held n e cs = some y → ∃ x, cs = en x ∧ ok x) (h : DataW.trod enc P w base spare held fuel t cs = some y) :
    ∃ (A : Option Addr) (len cap : Nat) (xs : List α), cs = [.slice A len cap] ∧ len ≤ cap ∧ cap ≤ maxLen ∧ ArrIn w en m A len xs ∧ ∀ x ∈ xs, ok x := by
  rcases open_slice ht h with ⟨hcs, _⟩ | ⟨a, len, cap, mm, n, Dd, Pl, hcs, _, hl, hc, hmm, _, hi⟩
  · exact ⟨none, 0, 0, [], hcs, Nat.le_refl _, Nat.zero_le _, ⟨rfl, .inl rfl⟩, fun x hx => by simp at hx⟩
  · have hlm : len ≤ mm := by rw [hmm]; split <;> omega
    have hel : ∀ i, i < len → ∃ x, (∀ j u, (en x)[j]? = some u → w.cell? ((a.add (i * m)).add j) = some u) ∧ ok x := fun i hil => by
      obtain ⟨cs', h1, h2⟩ := hi i (by omega)
      rw [hm] at h1
      obtain ⟨_, hlen', hat⟩ := World.cells?_some h1
      obtain ⟨x, hx, hok⟩ := hdec _ _ _ h2
      refine ⟨x, fun j u hj => ?_, hok⟩
      rw [← hx] at hj
      have hjl : j < m := by
        rw [← hlen']
        rcases Nat.lt_or_ge j cs'.length with h | h
        · exact h
        · rw [List.getElem?_eq_none h] at hj; cases hj
      rw [hat j hjl]; exact hj
    obtain ⟨xs, hxl, hx⟩ := exists_list len hel
    refine ⟨some a, len, cap, xs, hcs, hl, hc, ⟨hxl, ?_⟩, fun x hxm => ?_⟩
    · by_cases h0 : len = 0
      · exact .inl h0
      · right
        have hsp : a.spot = none := by
          obtain ⟨x, h1, _⟩ := hel 0 (by omega)
          have h3 := hlen x
          have h4 := h1 0 ((en x)[0]'(by omega)) (List.getElem?_eq_getElem (by omega))
          have e : (a.add (0 * m)).add 0 = a := by simp [Addr.add]
          rw [e] at h4
          unfold World.cell? at h4
          split at h4
          · split at h4
            · cases h4
            · rename_i hs; simpa using hs
          · cases h4
        obtain ⟨b, o, s⟩ := a
        simp only at hsp
        subst hsp
        refine ⟨b, o, rfl, fun i x j u hi hj => ?_⟩
        have := (hx i x hi).1 j u hj
        rwa [show (⟨b, o, none⟩ : Addr) = ad b o from rfl, ad_add, ad_add] at this
    · obtain ⟨i, hi⟩ := List.getElem?_of_mem hxm
      exact (hx i x hi).2
theorem open_arrG {r : Reach} {b0 : Nat} {t e : TypeId} {v : Value} {d : DataW H} {p : List MemPlace} {α : Type} {en : α → List Value} {ok : α → Prop} {m : Nat} (ht : P.underlying t = some (.slice e)) (hm : P.cellsOf e = m) (hne : 0 < m) (hlen : ∀ x, (en x).length = m)
    (hdec : ∀ n cs y, DataW.trod enc P w base spare held n e cs = some y → ∃ x, cs = en x ∧ ok x) (hv : Value.okWide P w r b0 t v) (h : DataW.Trod enc P w base spare held t v d p) :
    ∃ (A : Option Addr) (len cap : Nat) (xs : List α), v = .slice A len cap ∧ len ≤ cap ∧ cap ≤ maxLen ∧ ArrIn w en m A len xs ∧ ∀ x ∈ xs, ok x := by
  obtain ⟨A, len, cap, rfl⟩ := okWide_slice ht hv
  obtain ⟨fuel, hf⟩ := h
  obtain ⟨A', len', cap', xs, hcs, h1⟩ := open_arrC ht hm hne hlen hdec hf
  simp [Value.cells] at hcs
  obtain ⟨rfl, rfl, rfl⟩ := hcs
  exact ⟨_, _, _, xs, rfl, h1⟩
/-- An element's int, and so on. -/
def encZ1 (n : Int) : List Value := [.int .i64 n]
theorem dec_int {e : TypeId} (hu : P.underlying e = some (.int .i64)) {n : Nat} {cs : List Value} {y : DataW H × List MemPlace} (h : DataW.trod enc P w base spare held n e cs = some y) : ∃ x, cs = encZ1 x ∧ (Lit.int .i64 x).wf = true := by
  obtain ⟨x, rfl, _, hw⟩ := DataW.trod_int hu h
  exact ⟨x, rfl, hw⟩
/-- A struct of two numbers, a string and two slices of numbers. -/
structure It where
  ask : Int
  num : Int
  s : ByteArray
  wa : Option Addr
  wl : Nat
  wc : Nat
  ws : List Int
  la : Option Addr
  ll : Nat
  lc : Nat
  ls : List Int
def encIt (x : It) : List Value := [.int .i64 x.ask, .int .i64 x.num, .string x.s, .slice x.wa x.wl x.wc, .slice x.la x.ll x.lc]
theorem encIt_len (x : It) : (encIt x).length = 5 := rfl
structure okIt (w : World) (x : It) : Prop where
  ask : (Lit.int .i64 x.ask).wf = true
  num : (Lit.int .i64 x.num).wf = true
  s : x.s.size ≤ maxLen
  wc : x.wl ≤ x.wc ∧ x.wc ≤ maxLen
  wi : ArrIn w encZ1 1 x.wa x.wl x.ws
  ws : ∀ v ∈ x.ws, (Lit.int .i64 v).wf = true
  lc : x.ll ≤ x.lc ∧ x.lc ≤ maxLen
  li : ArrIn w encZ1 1 x.la x.ll x.ls
  ls : ∀ v ∈ x.ls, (Lit.int .i64 v).wf = true
theorem dec_it {e ti : TypeId} {f0 f1 f2 f3 f4 : Field} (he : P.underlying e = some (.struct #[f0, f1, f2, f3, f4])) (he5 : P.cellsOf e = 5) (o : (f0.offset, f1.offset, f2.offset, f3.offset, f4.offset) = (0, 1, 2, 3, 4)) (c : (P.cellsOf f0.type, P.cellsOf f1.type, P.cellsOf f2.type, P.cellsOf f3.type, P.cellsOf f4.type) = (1, 1, 1, 1, 1))
    (u0 : P.underlying f0.type = some (.int .i64)) (u1 : P.underlying f1.type = some (.int .i64)) (u2 : P.underlying f2.type = some .string) (u3 : P.underlying f3.type = some (.slice ti)) (u4 : P.underlying f4.type = some (.slice ti)) (ui : P.underlying ti = some (.int .i64)) (ci : P.cellsOf ti = 1)
    {n : Nat} {cs : List Value} {y : DataW H × List MemPlace} (h : DataW.trod enc P w base spare held n e cs = some y) : ∃ x, cs = encIt x ∧ okIt w x := by
  obtain ⟨xs, k, _, _, hl, hxl, hf⟩ := DataW.trod_struct he h
  simp only [Prod.mk.injEq] at o c
  obtain ⟨o0, o1, o2, o3, o4⟩ := o
  obtain ⟨c0, c1, c2, c3, c4⟩ := c
  rw [he5] at hl
  match cs, hl, xs, hxl with
  | [v0, v1, v2, v3, v4], _, [y0, y1, y2, y3, y4], _ =>
    have h0 := hf 0 f0 rfl
    have h1 := hf 1 f1 rfl
    have h2 := hf 2 f2 rfl
    have h3 := hf 3 f3 rfl
    have h4 := hf 4 f4 rfl
    rw [o0, c0] at h0
    rw [o1, c1] at h1
    rw [o2, c2] at h2
    rw [o3, c3] at h3
    rw [o4, c4] at h4
    obtain ⟨a, e0, _, w0⟩ := DataW.trod_int u0 (x := y0) h0
    obtain ⟨b, e1, _, w1⟩ := DataW.trod_int u1 (x := y1) h1
    obtain ⟨s, e2, _, w2⟩ := DataW.trod_string u2 (x := y2) h2
    obtain ⟨wa, wl, wc, ws, e3, w3, w4, w5, w6⟩ := open_arrC (y := y3) u3 ci (by decide) (fun _ => rfl) (fun n cs y => dec_int ui) h3
    obtain ⟨la, ll, lc, ls, e4, w7, w8, w9, wt⟩ := open_arrC (y := y4) u4 ci (by decide) (fun _ => rfl) (fun n cs y => dec_int ui) h4
    simp only [List.drop_zero, List.drop_succ_cons, List.take_succ_cons, List.take_zero, List.cons.injEq, and_true] at e0 e1 e2 e3 e4
    subst e0 e1 e2 e3 e4
    exact ⟨⟨a, b, s, wa, wl, wc, ws, la, ll, lc, ls⟩, rfl, ⟨w0, w1, w2, ⟨w3, w4⟩, w5, w6, ⟨w7, w8⟩, w9, wt⟩⟩
end
end Go.SLA
