/- Contracts of what lays addresses, at whatever numbers, in one form for the program and the document; they are used by the texts that import this one. -/
import Derived.Test.YtkkoepnljofhpaaDoorAj
import Derived.Test.YtkkoepnljofhpaaDoorH
namespace Go.Proofs.YtkkoepnljofhpaaDoor
open Go.SLA
set_option maxRecDepth 100000
set_option linter.unusedVariables false
set_option linter.unusedSimpArgs false
attribute [local irreducible] J L K QL Rg FSpec OpV OpX Rd Back

section
variable {prog : Program} {σ : World} {n : Nat} {E : Env} {P R : HProp}
/-- A store over a whole block. -/
theorem opx_storeW {ty : TypeId} {pos : String} {aft : Array Edge} {g : Option (Nat × Bool)} {x y : Operand} {t te m b : Nat} {v : Value} {l vs : List Value} [Siz prog t m] (hx : ev E x = some (.pointer (some (ad b 0)))) (hy : ev E y = some v) [hc : Cel v vs] (hl : vs.length = m) (h1 : ∀ u ∈ vs, u.oneCell' = true) [hk : Look P b l te R] (hm : l.length = m) :
    OpX prog σ n E P ⟨none, .store t x y, ty, pos, aft, g⟩ (fun _ : Unit => True) (fun _ => E) (fun _ => (sep (cel b vs te) (R))) :=
  opx_storeAt hx hy hl h1 (by rw [hl, hm, Nat.zero_add]; exact Nat.le_refl _) (by
    rw [List.take_zero, List.nil_append, List.drop_eq_nil_of_le (by rw [hl, hm, Nat.zero_add]; exact Nat.le_refl _), List.append_nil])
theorem opv_loadW {d : Option Tmp} {ty : TypeId} {pos : String} {aft : Array Edge} {g : Option (Nat × Bool)} {x : Operand} {t b m : Nat} {vs : List Value} {te : TypeId} [Agg prog t m] (hx : ev E x = some (.pointer (some (ad b 0)))) [Look P b vs te R] (hl : vs.length = m) :
    OpV prog σ n E P ⟨d, .load t x, ty, pos, aft, g⟩ (.agg vs.toArray) := opv_loadN hx hl fun j u hj => Rd.look (by rw [Nat.zero_add]; exact hj)
end
/-- Bytes. -/
def Bys (k : Nat) (l : List Nat) : Prop := l.length = k ∧ ∀ w ∈ l, w < 256
def ag (l : List Nat) : Value := .agg (l.map enc8).toArray
instance {l : List Nat} : Cel (ag l) (l.map enc8) := inferInstanceAs (Cel (.agg (l.map enc8).toArray) (l.map enc8))
theorem enc8_one (l : List Nat) : ∀ u ∈ l.map enc8, u.oneCell' = true := by
  intro u hu
  obtain ⟨_, _, rfl⟩ := List.mem_map.1 hu
  rfl
theorem enc8_len {l : List Nat} {k : Nat} (h : Bys k l) : (l.map enc8).length = k := by rw [List.length_map, h.1]
def tx (l : List Nat) : ByteArray := bytesL (l.map fun w => ((w : Nat) : Int))
theorem Bys.cons {l : List Nat} {k : Nat} (h : Bys (k + 1) l) : ∃ w l', l = w :: l' ∧ w < 256 ∧ Bys k l' := by
  obtain ⟨h1, h2⟩ := h
  match l, h1 with
  | w :: l', h1 => exact ⟨w, l', rfl, h2 w List.mem_cons_self, by simpa using h1, fun x hx => h2 x (List.mem_cons_of_mem _ hx)⟩
theorem Bys.six {l : List Nat} (h : Bys 6 l) : ∃ a b c d e f, l = [a, b, c, d, e, f] ∧ a < 256 ∧ b < 256 ∧ c < 256 ∧ d < 256 ∧ e < 256 ∧ f < 256 := by
  obtain ⟨a, _, rfl, ha, h⟩ := h.cons
  obtain ⟨b, _, rfl, hb, h⟩ := h.cons
  obtain ⟨c, _, rfl, hc, h⟩ := h.cons
  obtain ⟨d, _, rfl, hd, h⟩ := h.cons
  obtain ⟨e, _, rfl, he, h⟩ := h.cons
  obtain ⟨f, l, rfl, hf, h⟩ := h.cons
  obtain rfl := List.eq_nil_of_length_eq_zero h.1
  exact ⟨a, b, c, d, e, f, rfl, ha, hb, hc, hd, he, hf⟩
theorem Bys.four {l : List Nat} (h : Bys 4 l) : ∃ a b c d, l = [a, b, c, d] ∧ a < 256 ∧ b < 256 ∧ c < 256 ∧ d < 256 := by
  obtain ⟨a, _, rfl, ha, h⟩ := h.cons
  obtain ⟨b, _, rfl, hb, h⟩ := h.cons
  obtain ⟨c, _, rfl, hc, h⟩ := h.cons
  obtain ⟨d, l, rfl, hd, h⟩ := h.cons
  obtain rfl := List.eq_nil_of_length_eq_zero h.1
  exact ⟨a, b, c, d, rfl, ha, hb, hc, hd⟩
def lnk (n : Int) : List Nat × Int := if 1 ≤ n ∧ n ≤ 65535 then ([3, 0, 0, 0, n.toNat / 256 % 256, n.toNat % 256], 0) else ([0, 0, 0, 0, 0, 0], 1)
def sou (n k : Int) : List Nat × Int := if 0 ≤ n ∧ n ≤ 4095 ∧ 0 ≤ k ∧ k ≤ 1 then ([2, 0, 0, n.toNat / 256 % 256, n.toNat % 256, 32 * (k.toNat + 1)], 0) else ([0, 0, 0, 0, 0, 0], 1)
def prt (n k : Int) : List Nat × Int := if 0 ≤ n ∧ n ≤ 4095 ∧ 0 ≤ k ∧ k ≤ 255 then ([10, n.toNat / 256 % 256, n.toNat % 256, k.toNat], 0) else ([0, 0, 0, 0], 1)
def grp (n : Int) : List Nat × Int := if 1 ≤ n ∧ n ≤ 65535 then ([224, 224, n.toNat / 256 % 256, n.toNat % 256], 0) else ([0, 0, 0, 0], 1)
/-- An address, or, with an error, none. -/
def Adr (k : Nat) (p : List Nat × Int) : Prop := Bys k p.1 ∧ (p.2 = 0 ∨ p.2 = 1 ∧ p.1 = List.replicate k 0)
def txe (p : List Nat × Int) : ByteArray := if p.2 = 0 then tx p.1 else ⟨#[]⟩
theorem bys6 {a b c d e f : Nat} (h : a < 256 ∧ b < 256 ∧ c < 256 ∧ d < 256 ∧ e < 256 ∧ f < 256) : Bys 6 [a, b, c, d, e, f] := ⟨rfl, by simpa using h⟩
theorem bys4 {a b c d : Nat} (h : a < 256 ∧ b < 256 ∧ c < 256 ∧ d < 256) : Bys 4 [a, b, c, d] := ⟨rfl, by simpa using h⟩
theorem lnk_adr (n : Int) : Adr 6 (lnk n) := by
  unfold lnk; split
  · exact ⟨bys6 (by omega), .inl rfl⟩
  · exact ⟨bys6 (by omega), .inr ⟨rfl, rfl⟩⟩
theorem sou_adr (n k : Int) : Adr 6 (sou n k) := by
  unfold sou; split
  · exact ⟨bys6 (by omega), .inl rfl⟩
  · exact ⟨bys6 (by omega), .inr ⟨rfl, rfl⟩⟩
theorem prt_adr (n k : Int) : Adr 4 (prt n k) := by
  unfold prt; split
  · exact ⟨bys4 (by omega), .inl rfl⟩
  · exact ⟨bys4 (by omega), .inr ⟨rfl, rfl⟩⟩
theorem grp_adr (n : Int) : Adr 4 (grp n) := by
  unfold grp; split
  · exact ⟨bys4 (by omega), .inl rfl⟩
  · exact ⟨bys4 (by omega), .inr ⟨rfl, rfl⟩⟩
def at2 (p : List Nat × Int) : Value := .tuple #[ag p.1, .int .i64 p.2]
def tt2 (p : List Nat × Int) : Value := .tuple #[.string (txe p), .int .i64 p.2]
theorem nat_of {n : Int} (h : 0 ≤ n) : ∃ m : Nat, n = (m : Int) := ⟨n.toNat, by omega⟩
theorem Link_any (n : Int) : FSpec Tryd.prog 10 #[.int .i64 n] emp (fun _ : Unit => True) (fun _ => at2 (lnk n)) (fun _ => emp) := by
  by_cases h : 1 ≤ n ∧ n ≤ 65535
  · obtain ⟨m, rfl⟩ := nat_of (n := n) (by omega)
    unfold lnk; rw [if_pos h]; exact Link_ok m (by omega)
  · unfold lnk; rw [if_neg h]; exact Link_bad n h
theorem RLink_any (n : Int) : FSpec Tryd.prog 11 #[.int .i64 n] emp (fun _ : Unit => True) (fun _ => tt2 (lnk n)) (fun _ => emp) := by
  by_cases h : 1 ≤ n ∧ n ≤ 65535
  · obtain ⟨m, rfl⟩ := nat_of (n := n) (by omega)
    have := RLink_ok m (by omega)
    rw [b2] at this
    unfold lnk; rw [if_pos h]; exact this
  · unfold lnk; rw [if_neg h]; exact RLink_bad n h
theorem Group_any (n : Int) : FSpec Tryd.prog 17 #[.int .i64 n] emp (fun _ : Unit => True) (fun _ => at2 (grp n)) (fun _ => emp) := by
  by_cases h : 1 ≤ n ∧ n ≤ 65535
  · obtain ⟨m, rfl⟩ := nat_of (n := n) (by omega)
    unfold grp; rw [if_pos h]; exact Group_ok m (by omega)
  · unfold grp; rw [if_neg h]; exact Group_bad n h
theorem RGroup_any (n : Int) : FSpec Tryd.prog 18 #[.int .i64 n] emp (fun _ : Unit => True) (fun _ => tt2 (grp n)) (fun _ => emp) := by
  by_cases h : 1 ≤ n ∧ n ≤ 65535
  · obtain ⟨m, rfl⟩ := nat_of (n := n) (by omega)
    have := RGroup_ok m (by omega)
    rw [b2] at this
    unfold grp; rw [if_pos h]; exact this
  · unfold grp; rw [if_neg h]; exact RGroup_bad n h
theorem Source_any (n k : Int) : FSpec Tryd.prog 13 #[.agg [.int .i64 n, .int .i64 k].toArray] emp (fun _ : Unit => True) (fun _ => at2 (sou n k)) (fun _ => emp) := by
  by_cases h : 0 ≤ n ∧ n ≤ 4095 ∧ 0 ≤ k ∧ k ≤ 1
  · obtain ⟨m, rfl⟩ := nat_of (n := n) (by omega)
    obtain ⟨q, rfl⟩ := nat_of (n := k) (by omega)
    unfold sou; rw [if_pos h]; exact Source_ok m q (by omega) (by omega)
  · unfold sou; rw [if_neg h]; exact Source_bad n k h
theorem RSource_any (n k : Int) : FSpec Tryd.prog 14 #[.int .i64 n, .int .i64 k] emp (fun _ : Unit => True) (fun _ => tt2 (sou n k)) (fun _ => emp) := by
  by_cases h : 0 ≤ n ∧ n ≤ 4095 ∧ 0 ≤ k ∧ k ≤ 1
  · obtain ⟨m, rfl⟩ := nat_of (n := n) (by omega)
    obtain ⟨q, rfl⟩ := nat_of (n := k) (by omega)
    have := RSource_ok m q (by omega) (by omega)
    rw [b2, b1 (by omega)] at this
    unfold sou; rw [if_pos h]; exact this
  · unfold sou; rw [if_neg h]; exact RSource_bad n k h
theorem Part_any (n k : Int) : FSpec Tryd.prog 15 #[.int .i64 n, .int .i64 k] emp (fun _ : Unit => True) (fun _ => at2 (prt n k)) (fun _ => emp) := by
  by_cases h : 0 ≤ n ∧ n ≤ 4095 ∧ 0 ≤ k ∧ k ≤ 255
  · obtain ⟨m, rfl⟩ := nat_of (n := n) (by omega)
    obtain ⟨q, rfl⟩ := nat_of (n := k) (by omega)
    unfold prt; rw [if_pos h]; exact Part_ok m q (by omega) (by omega)
  · unfold prt; rw [if_neg h]; exact Part_bad n k h
theorem RPart_any (n k : Int) : FSpec Tryd.prog 16 #[.int .i64 n, .int .i64 k] emp (fun _ : Unit => True) (fun _ => tt2 (prt n k)) (fun _ => emp) := by
  by_cases h : 0 ≤ n ∧ n ≤ 4095 ∧ 0 ≤ k ∧ k ≤ 255
  · obtain ⟨m, rfl⟩ := nat_of (n := n) (by omega)
    obtain ⟨q, rfl⟩ := nat_of (n := k) (by omega)
    have := RPart_ok m q (by omega) (by omega)
    rw [b2, b1 (by omega)] at this
    unfold prt; rw [if_pos h]; exact this
  · unfold prt; rw [if_neg h]; exact RPart_bad n k h
theorem text_any {l : List Nat} (h : Bys 6 l) : FSpec Tryd.prog 23 #[ag l] emp (fun _ : Unit => True) (fun _ => .string (tx l)) (fun _ => emp) := by
  obtain ⟨a, b, c, d, e, f, rfl, hb⟩ := h.six
  exact text_spec a b c d e f (by simp; omega)
theorem short_any {l : List Nat} (h : Bys 4 l) : FSpec Tryd.prog 19 #[ag l] emp (fun _ : Unit => True) (fun _ => .string (tx l)) (fun _ => emp) := by
  obtain ⟨a, b, c, d, rfl, hb⟩ := h.four
  exact short_spec a b c d (by simp; omega)
theorem same_any {p : List Nat × Int} (h : Adr 6 p) : FSpec Tryd.prog 12 #[ag p.1, .int .i64 p.2, .string (txe p), .int .i64 p.2] emp (fun _ : Unit => True) (fun _ => .bool true) (fun _ => emp) := by
  obtain ⟨l, q⟩ := p
  obtain ⟨hb, h0 | ⟨h1, h2⟩⟩ := h
  · obtain ⟨a, b, c, d, e, f, he, hb⟩ := hb.six
    obtain rfl : q = 0 := h0
    obtain rfl : l = _ := he
    exact same_ok a b c d e f (by simp; omega) _ rfl
  · obtain rfl : q = 1 := h1
    obtain rfl : l = _ := h2
    exact same_bad 1 (by decide) _

end Go.Proofs.YtkkoepnljofhpaaDoor
