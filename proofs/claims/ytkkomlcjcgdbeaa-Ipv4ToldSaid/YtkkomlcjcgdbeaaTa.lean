/- A string of which one byte is another one: another sum of 16 bits. Plain lemmas, used by the texts that import this one. -/
import Derived.Test.YtkkomlcjcgdbeaaBu
import Derived.Test.YtkkomlcjcgdbeaaM
import Derived.Test.YtkkomlcjcgdbeaaH
namespace Go.Proofs.Ytkkomlcjcgdbeaa
open Go.SLA
set_option maxRecDepth 100000
set_option linter.unusedVariables false
set_option linter.unusedSimpArgs false
attribute [local irreducible] J L K QL Rg FSpec OpV OpX Rd Back

theorem bn_setB {s : ByteArray} {j u : Nat} (hj : j < s.size) (hu : u < 256) (i : Nat) : bn (setB s j u) i = if i = j then u else bn s i := by
  have hj' : j < s.data.size := hj
  unfold bn setB
  rw [List.getD_eq_getElem?_getD, List.getD_eq_getElem?_getD, Array.toList_setIfInBounds, List.getElem?_set]
  by_cases h : i = j
  · subst h
    rw [if_pos rfl, if_pos rfl, if_pos (by simpa using hj')]
    show (UInt8.ofNat u).toNat = u
    rw [UInt8.toNat_ofNat', Nat.mod_eq_of_lt (by omega)]
  · rw [if_neg (fun e => h e.symm), if_neg h]
theorem word_setB {s : ByteArray} {j u : Nat} (hj : j < s.size) (hu : u < 256) {i : Nat} (h0 : j ≠ i) (h1 : j ≠ i + 1) : word (setB s j u) i = word s i := by
  unfold word
  rw [bn_setB hj hu, bn_setB hj hu, if_neg (fun e => h0 e.symm), if_neg (fun e => h1 e.symm)]
theorem word_setB_ne {s : ByteArray} {j u : Nat} (hj : j < s.size) (hu : u < 256) {i : Nat} (h : j = i ∨ j = i + 1) (hn : u ≠ bn s j) : word (setB s j u) i ≠ word s i := by
  have h0 := bn_lt s i
  have h1 := bn_lt s (i + 1)
  unfold word
  rw [bn_setB hj hu, bn_setB hj hu]
  rcases h with rfl | rfl
  · rw [if_pos rfl, if_neg (by omega)]; omega
  · rw [if_neg (by omega), if_pos rfl]; omega
/-- One byte is another one: the sum is another one, and not only in how 0 is told. -/
theorem ones_ne {s r : ByteArray} (hs : s.size = r.size) {a : Nat} (ha : a < s.size) (hn : bn s a ≠ bn r a) (h : ∀ i, i < s.size → i ≠ a → bn s i = bn r i) : ones s % 65535 ≠ ones r % 65535 := by
  have hw := wsum_one (s := s) (r := r) s.size ha h
  have f1 := fold_mod (wsum s s.size)
  have f2 := fold_mod (wsum r s.size)
  have g1 := fold_le (wsum s s.size)
  have g2 := fold_le (wsum r s.size)
  have b1 := bn_lt s a
  have b2 := bn_lt r a
  unfold ones
  rw [← hs]
  split at hw <;> omega
theorem ext_setB {s : ByteArray} {j u a b : Nat} (hj : j < s.size) (hu : u < 256) (hb : b ≤ s.size) (h : j < a ∨ b ≤ j) : (setB s j u).extract a b = s.extract a b := by
  have hz := setB_size s j u
  refine bn_ext (by rw [ext_size _ _ _ (by omega), ext_size _ _ _ hb]) fun i hi => ?_
  rw [ext_size _ _ _ (by omega)] at hi
  rw [bn_extract (by omega) (by omega), bn_extract (by omega) hb, bn_setB hj hu, if_neg (by omega)]
/-- Bytes i to j of a string, with two noughts between: byte by byte. -/
theorem bn_gap {s : ByteArray} {m e : Nat} (hm : m + 2 ≤ e) (he : e ≤ s.size) (i : Nat) : bn (s.extract 0 m ++ ⟨#[0, 0]⟩ ++ s.extract (m + 2) e) i = if i < m then bn s i else if i < m + 2 then 0 else if i < e then bn s i else 0 := by
  have h1 : (s.extract 0 m).size = m := ext_size s 0 m (by omega)
  have h2 : (⟨#[0, 0]⟩ : ByteArray).size = 2 := rfl
  have h3 : (s.extract (m + 2) e).size = e - (m + 2) := ext_size s _ _ he
  have h4 : (s.extract 0 m ++ ⟨#[0, 0]⟩).size = m + 2 := by rw [ByteArray.size_append, h1, h2]
  by_cases c1 : i < m
  · rw [if_pos c1, bn_app_l (by omega), bn_app_l (by omega), bn_extract (by omega) (by omega), Nat.zero_add]
  · rw [if_neg c1]
    by_cases c2 : i < m + 2
    · rw [if_pos c2, bn_app_l (by omega), bn_app_r (by omega), h1]
      rcases (show i - m = 0 ∨ i - m = 1 by omega) with c | c <;> rw [c] <;> rfl
    · rw [if_neg c2, bn_app_r (by omega), h4]
      by_cases c3 : i < e
      · rw [if_pos c3, bn_extract (by omega) he, show m + 2 + (i - (m + 2)) = i by omega]
      · rw [if_neg c3]
        unfold bn
        have : (s.extract (m + 2) e).data.toList.length = e - (m + 2) := by rw [Array.length_toList]; exact h3
        rw [List.getD_eq_getElem?_getD, List.getElem?_eq_none (by omega)]
        rfl
theorem gap_size {s : ByteArray} {m e : Nat} (hm : m + 2 ≤ e) (he : e ≤ s.size) : (s.extract 0 m ++ ⟨#[0, 0]⟩ ++ s.extract (m + 2) e).size = e := by
  rw [ByteArray.size_append, ByteArray.size_append, ext_size s 0 m (by omega), ext_size s _ _ he]
  show m - 0 + 2 + _ = _
  omega

end Go.Proofs.Ytkkomlcjcgdbeaa
