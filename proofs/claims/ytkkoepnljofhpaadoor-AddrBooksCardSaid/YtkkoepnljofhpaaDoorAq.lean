/- Six bytes as an argument; it is used by the texts that import this one. -/
import Derived.Test.YtkkoepnljofhpaaDoorAm
import Derived.Test.YtkkoepnljofhpaaDoorH
namespace Go.Proofs.YtkkoepnljofhpaaDoor
open Go.SLA
set_option maxRecDepth 100000
set_option linter.unusedVariables false
set_option linter.unusedSimpArgs false
attribute [local irreducible] J L K QL Rg FSpec OpV OpX Rd Back
structure Mc where
  a : Int
  b : Int
  c : Int
  d : Int
  e : Int
  f : Int
def encMc (x : Mc) : List Value := [.int .u8 x.a, .int .u8 x.b, .int .u8 x.c, .int .u8 x.d, .int .u8 x.e, .int .u8 x.f]
def okMc (x : Mc) : Prop := (Lit.int .u8 x.a).wf = true ∧ (Lit.int .u8 x.b).wf = true ∧ (Lit.int .u8 x.c).wf = true ∧ (Lit.int .u8 x.d).wf = true ∧ (Lit.int .u8 x.e).wf = true ∧ (Lit.int .u8 x.f).wf = true
abbrev ksMc : List CK := [.int .u8, .int .u8, .int .u8, .int .u8, .int .u8, .int .u8]
theorem encMc_len (x : Mc) : (encMc x).length = 6 := rfl
theorem decMc (cs : List Value) (h : Kinds ksMc cs) : ∃ x, cs = encMc x ∧ okMc x := by
  obtain ⟨hl, hk⟩ := h
  obtain ⟨v0, g0, x0, rfl, w0⟩ := hk 0 _ rfl
  obtain ⟨v1, g1, x1, rfl, w1⟩ := hk 1 _ rfl
  obtain ⟨v2, g2, x2, rfl, w2⟩ := hk 2 _ rfl
  obtain ⟨v3, g3, x3, rfl, w3⟩ := hk 3 _ rfl
  obtain ⟨v4, g4, x4, rfl, w4⟩ := hk 4 _ rfl
  obtain ⟨v5, g5, x5, rfl, w5⟩ := hk 5 _ rfl
  match cs, hl with
  | [c0, c1, c2, c3, c4, c5], _ =>
    simp only [List.getElem?_cons_zero, List.getElem?_cons_succ, Option.some.injEq] at g0 g1 g2 g3 g4 g5
    exact ⟨⟨x0, x1, x2, x3, x4, x5⟩, by simp only [encMc, *], ⟨w0, w1, w2, w3, w4, w5⟩⟩


theorem nat8 {n : Int} (h : (Lit.int .u8 n).wf = true) : ∃ m : Nat, n = (m : Int) ∧ m < 256 := by
  have : 0 ≤ n ∧ n ≤ 255 := by simpa [Lit.wf, IntKind.min, IntKind.max, IntKind.signed, IntKind.bits] using h
  exact ⟨n.toNat, by omega, by omega⟩
theorem dec8 (cs : List Value) (h : Kinds ksMc cs) : ∃ a b c d e f : Nat, cs = [a, b, c, d, e, f].map enc8 ∧ Bys 6 [a, b, c, d, e, f] := by
  obtain ⟨⟨a, b, c, d, e, f⟩, rfl, h1, h2, h3, h4, h5, h6⟩ := decMc cs h
  obtain ⟨a, rfl, ha⟩ := nat8 h1
  obtain ⟨b, rfl, hb⟩ := nat8 h2
  obtain ⟨c, rfl, hc⟩ := nat8 h3
  obtain ⟨d, rfl, hd⟩ := nat8 h4
  obtain ⟨e, rfl, he⟩ := nat8 h5
  obtain ⟨f, rfl, hf⟩ := nat8 h6
  exact ⟨a, b, c, d, e, f, rfl, bys6 ⟨ha, hb, hc, hd, he, hf⟩⟩

end Go.Proofs.YtkkoepnljofhpaaDoor
