/- From a law's contract to its row: what an argument that was read as data is. -/
import Derived.Test.YtkkoepnljofhpaaDoorG
import Derived.ProofKit
import Derived.OpenShut
import Derived.ShutString
import Derived.ChangeOld
import Derived.SizedLaws
import Derived.Deep.Slices
set_option linter.unusedVariables false
set_option linter.unusedSimpArgs false
namespace Go.SLA
open Go.ChangeShapes Go.WideShapes Go.Deep

/-! ### Types without anything behind a pointer -/

inductive CK where
  | int (k : IntKind)
  | bool
  | str
def CK.ok : CK → Value → Prop
  | .int k, v => ∃ n, v = .int k n ∧ (Lit.int k n).wf = true
  | .bool, v => ∃ b, v = .bool b
  | .str, v => ∃ s : ByteArray, v = .string s ∧ s.size ≤ maxLen
def flatFs (P : Program) (g : TypeId → Option (List CK)) : List Field → Nat → Option (List CK)
  | [], _ => some []
  | f :: fs, off => match g f.type with
    | some k => if f.offset = off ∧ P.cellsOf f.type = k.length then (flatFs P g fs (off + k.length)).map (k ++ ·) else none
    | none => none
/-- The kinds of the cells of a type's values. -/
def flatK (P : Program) : Nat → TypeId → Option (List CK)
  | 0, _ => none
  | d + 1, t => match P.underlying t with
    | some (.int k) => some [.int k]
    | some .bool => some [.bool]
    | some .string => some [.str]
    | some (.struct fs) => match flatFs P (flatK P d) fs.toList 0 with
      | some ks => if P.cellsOf t = ks.length then some ks else none
      | none => none
    | some (.array n e) => match flatK P d e with
      | some k => if P.cellsOf e = k.length ∧ P.cellsOf t = n * k.length then some (List.replicate n k).flatten else none
      | none => none
    | _ => none

def Kinds (ks : List CK) (cs : List Value) : Prop := cs.length = ks.length ∧ ∀ (j : Nat) (k : CK), ks[j]? = some k → ∃ v, cs[j]? = some v ∧ k.ok v
theorem Kinds.append {k1 k2 : List CK} {c1 c2 : List Value} (h1 : Kinds k1 c1) (h2 : Kinds k2 c2) : Kinds (k1 ++ k2) (c1 ++ c2) := by
  refine ⟨by simp [h1.1, h2.1], fun j k hj => ?_⟩
  by_cases h : j < k1.length
  · rw [List.getElem?_append_left h] at hj
    rw [List.getElem?_append_left (by rw [h1.1]; exact h)]
    exact h1.2 j k hj
  · rw [List.getElem?_append_right (by omega)] at hj
    rw [List.getElem?_append_right (by rw [h1.1]; omega), h1.1]
    exact h2.2 _ k hj
theorem Kinds.nil : Kinds [] [] := ⟨rfl, fun j k h => by simp at h⟩

section
variable {H : Type} {enc : TypeId × Value → H} {P : Program} {w : World} {base : Nat} {spare : Nat → Bool} {held : Bool}

theorem flatFs_ok {g : TypeId → Option (List CK)} {n : Nat} {cs : List Value}
    (hg : ∀ t ks cs x, g t = some ks → DataW.trod enc P w base spare held n t cs = some x → Kinds ks cs) :
    ∀ (fs : List Field) (off : Nat) (ks : List CK), flatFs P g fs off = some ks → off + ks.length ≤ cs.length →
      (∀ f ∈ fs, ∃ x, DataW.trod enc P w base spare held n f.type ((cs.drop f.offset).take (P.cellsOf f.type)) = some x) → Kinds ks ((cs.drop off).take ks.length)
  | [], off, ks, h, _, _ => by simp only [flatFs, Option.some.injEq] at h; subst h; simpa using Kinds.nil
  | f :: fs, off, ks, h, hl, hx => by
    simp only [flatFs] at h
    split at h
    · rename_i k hk
      split at h
      · rename_i hc
        cases hr : flatFs P g fs (off + k.length) with
        | none => simp [hr] at h
        | some ks' =>
          simp only [hr, Option.map_some, Option.some.injEq] at h
          subst h
          simp only [List.length_append] at hl
          obtain ⟨x, hx1⟩ := hx f (by simp)
          have h1 := hg _ _ _ _ hk hx1
          rw [hc.1, hc.2] at h1
          have h2 := flatFs_ok hg fs (off + k.length) ks' hr (by omega) (fun f hf => hx f (by simp [hf]))
          have := h1.append h2
          have e : (cs.drop off).take k.length ++ (cs.drop (off + k.length)).take ks'.length = (cs.drop off).take (k ++ ks').length := by
            rw [List.length_append, List.take_add, List.drop_drop]
          rw [e] at this
          exact this
      · cases h
    · cases h
theorem flat_ok : ∀ (d : Nat) (t : TypeId) (ks : List CK) (fuel : Nat) (cs : List Value) (x : DataW H × List MemPlace), flatK P d t = some ks → DataW.trod enc P w base spare held fuel t cs = some x → Kinds ks cs
  | 0, _, _, _, _, _, h, _ => by simp [flatK] at h
  | d + 1, t, ks, fuel, cs, x, h, ht => by
    simp only [flatK] at h
    split at h
    · rename_i k hu
      simp only [Option.some.injEq] at h; subst h
      obtain ⟨n, rfl, _, hw⟩ := DataW.trod_int hu ht
      exact ⟨rfl, fun j k' hj => by cases j with
        | zero => simp at hj; subst hj; exact ⟨_, rfl, n, rfl, hw⟩
        | succ j => simp at hj⟩
    · rename_i hu
      simp only [Option.some.injEq] at h; subst h
      obtain ⟨b, rfl, _⟩ := DataW.trod_bool hu ht
      exact ⟨rfl, fun j k' hj => by cases j with
        | zero => simp at hj; subst hj; exact ⟨_, rfl, b, rfl⟩
        | succ j => simp at hj⟩
    · rename_i hu
      simp only [Option.some.injEq] at h; subst h
      obtain ⟨s, rfl, _, hw⟩ := DataW.trod_string hu ht
      exact ⟨rfl, fun j k' hj => by cases j with
        | zero => simp at hj; subst hj; exact ⟨_, rfl, s, rfl, hw⟩
        | succ j => simp at hj⟩
    · rename_i fs hu
      split at h
      · rename_i ks' hks
        split at h
        · rename_i hlen
          simp only [Option.some.injEq] at h; subst h
          obtain ⟨xs, n, rfl, rfl, hl, hxl, hf⟩ := DataW.trod_struct hu ht
          have := flatFs_ok (g := flatK P d) (n := n) (cs := cs) (fun t ks cs x h1 h2 => flat_ok d t ks n cs x h1 h2) fs.toList 0 ks' hks (by omega) (fun f hf' => by
            obtain ⟨i, hi⟩ := List.getElem?_of_mem hf'
            rw [Array.getElem?_toList] at hi
            have hlt : i < xs.length := by rw [hxl]; exact (Array.getElem?_eq_some_iff.1 hi).1
            exact ⟨xs[i], by rw [hf i f hi, List.getElem?_eq_getElem hlt]⟩)
          simp only [List.drop_zero] at this
          rwa [List.take_of_length_le (by omega)] at this
        · cases h
      · cases h
    · rename_i n e hu
      split at h
      · rename_i k hk
        split at h
        · rename_i hc
          simp only [Option.some.injEq] at h; subst h
          obtain ⟨xs, m, rfl, rfl, hl, hxl, hf⟩ := DataW.trod_array hu ht
          have key : ∀ i, i ≤ n → Kinds (List.replicate i k).flatten (cs.take (i * k.length)) := by
            intro i
            induction i with
            | zero => intro _; simpa using Kinds.nil
            | succ i ih =>
              intro hi
              have h1 := ih (by omega)
              have h2 := hf i (by omega)
              rw [hc.1, List.getElem?_eq_getElem (show i < xs.length by omega)] at h2
              have h3 := h1.append (flat_ok d e k m _ _ hk h2)
              rw [List.replicate_succ', List.flatten_concat, Nat.add_mul, Nat.one_mul, List.take_add]
              exact h3
          have := key n (Nat.le_refl _)
          rwa [List.take_of_length_le (by omega)] at this
        · cases h
      · cases h
    · cases h

/-- An argument of such a type that is a struct or an array. -/
theorem open_flat {r : Reach} {b0 : Nat} {t : TypeId} {v : Value} {d : DataW H} {p : List MemPlace} {D : Nat} {ks : List CK} (hk : flatK P D t = some ks) (ha : undB P t isAggD = true) (hv : Value.okWide P w r b0 t v) (h : DataW.Trod enc P w base spare held t v d p) :
    ∃ l : List Value, v = .agg l.toArray ∧ Kinds ks l := by
  obtain ⟨fuel, hf⟩ := h
  have h1 := flat_ok D t ks fuel _ _ hk hf
  obtain ⟨dd, hd, hb⟩ := undB_spec ha
  have : ∃ cs, v = .agg cs := by
    simp only [Value.okWide, hd] at hv
    unfold isAggD at hb
    split at hb
    · obtain ⟨cs, h1, _⟩ := hv; exact ⟨cs, h1⟩
    · obtain ⟨cs, h1, _⟩ := hv; exact ⟨cs, h1⟩
    · cases hb
  obtain ⟨cs, rfl⟩ := this
  exact ⟨cs.toList, by simp, h1⟩

theorem exists_list {α : Type} {Q : Nat → α → Prop} : ∀ (n : Nat), (∀ i, i < n → ∃ x, Q i x) → ∃ xs : List α, xs.length = n ∧ ∀ i x, xs[i]? = some x → Q i x
  | 0, _ => ⟨[], rfl, fun i x h => by simp at h⟩
  | n + 1, h => by
    obtain ⟨xs, hl, hx⟩ := exists_list n (fun i hi => h i (by omega))
    obtain ⟨y, hy⟩ := h n (by omega)
    refine ⟨xs ++ [y], by simp [hl], fun i x hi => ?_⟩
    by_cases hin : i < n
    · rw [List.getElem?_append_left (by omega)] at hi; exact hx i x hi
    · rw [List.getElem?_append_right (by omega)] at hi
      have : i = n := by
        rcases Nat.lt_or_ge (i - xs.length) 1 with h | h
        · omega
        · rw [List.getElem?_eq_none (by simpa using h)] at hi; cases hi
      subst this
      simp [hl] at hi
      subst hi
      exact hy

/-- The elements of a slice that came in. -/
def ArrIn (W : World) {α : Type} (enc : α → List Value) (m : Nat) (A : Option Addr) (len : Nat) (xs : List α) : Prop :=
  xs.length = len ∧ (len = 0 ∨ ∃ b o, A = some (ad b o) ∧ ∀ i x j u, xs[i]? = some x → (enc x)[j]? = some u → W.cell? (ad b (o + i * m + j)) = some u)

/-- An argument that is a slice of such elements. -/
theorem open_arr {r : Reach} {b0 : Nat} {t e : TypeId} {v : Value} {d : DataW H} {p : List MemPlace} {D : Nat} {ks : List CK} {α : Type} {en : α → List Value} {ok : α → Prop} (ht : P.underlying t = some (.slice e)) (hk : flatK P D e = some ks) (hm : P.cellsOf e = ks.length) (hne : 0 < ks.length)
    (hdec : ∀ cs, Kinds ks cs → ∃ x, cs = en x ∧ ok x) (hv : Value.okWide P w r b0 t v) (h : DataW.Trod enc P w base spare held t v d p) :
    ∃ (A : Option Addr) (len cap : Nat) (xs : List α), v = .slice A len cap ∧ len ≤ cap ∧ cap ≤ maxLen ∧ ArrIn w en ks.length A len xs ∧ ∀ x ∈ xs, ok x := by
  obtain ⟨A, len, cap, rfl⟩ := okWide_slice ht hv
  obtain ⟨fuel, hf⟩ := h
  rcases open_slice ht hf with ⟨hcs, _⟩ | ⟨a, l', c', m, n, Dd, Pl, hcs, _, hl, hc, hmm, _, hi⟩
  · simp [Value.cells] at hcs
    obtain ⟨rfl, rfl, rfl⟩ := hcs
    exact ⟨none, 0, 0, [], rfl, Nat.le_refl _, Nat.zero_le _, ⟨rfl, .inl rfl⟩, fun x hx => by simp at hx⟩
  · simp [Value.cells] at hcs
    obtain ⟨rfl, rfl, rfl⟩ := hcs
    have hlm : len ≤ m := by rw [hmm]; split <;> omega
    have hel : ∀ i, i < len → ∃ x, (∀ j u, (en x)[j]? = some u → w.cell? ((a.add (i * ks.length)).add j) = some u) ∧ ok x ∧ (en x).length = ks.length := fun i hil => by
      obtain ⟨cs', h1, h2⟩ := hi i (by omega)
      rw [hm] at h1
      obtain ⟨_, hlen, hat⟩ := World.cells?_some h1
      have hK := flat_ok D e ks n _ _ hk h2
      obtain ⟨x, hx, hok⟩ := hdec cs' hK
      refine ⟨x, fun j u hj => ?_, hok, by rw [← hx]; exact hK.1⟩
      rw [← hx] at hj
      have hjl : j < ks.length := by
        rw [← hlen]
        rcases Nat.lt_or_ge j cs'.length with h | h
        · exact h
        · rw [List.getElem?_eq_none h] at hj; cases hj
      rw [hat j hjl]; exact hj
    obtain ⟨xs, hxl, hx⟩ := exists_list len hel
    refine ⟨some a, len, cap, xs, rfl, hl, hc, ⟨hxl, ?_⟩, fun x hxm => ?_⟩
    · by_cases h0 : len = 0
      · exact .inl h0
      · right
        have hsp : a.spot = none := by
          obtain ⟨x, h1, _, h3⟩ := hel 0 (by omega)
          have h4 := h1 0 ((en x)[0]'(by omega)) (List.getElem?_eq_getElem (by omega))
          have e : (a.add (0 * ks.length)).add 0 = a := by simp [Addr.add]
          rw [e] at h4
          unfold World.cell? at h4
          split at h4
          · split at h4
            · cases h4
            · rename_i hs; simpa using hs
          · cases h4
        obtain ⟨b, o, s⟩ := a
        simp only at hsp
        subst hsp
        refine ⟨b, o, rfl, fun i x j u hi hj => ?_⟩
        have := (hx i x hi).1 j u hj
        rwa [show (⟨b, o, none⟩ : Addr) = ad b o from rfl, ad_add, ad_add] at this
    · obtain ⟨i, hi⟩ := List.getElem?_of_mem hxm
      exact (hx i x hi).2.1
end

/-- From a law's contract to what its row asks of the call. -/
theorem FSpec.law {prog : Program} {f : FuncId} {args : Array Value} {W : World} (h : FSpec prog f args (old W) (fun _ : Unit => True) (fun _ => .bool true) (fun _ => old W)) :
    Calls prog f args W fun e w' => e = .returned (.bool true) ∧ Go.RowKit.Below W.heap.size W w' :=
  (h W W emp (Sat.start W)).mono fun e w' ⟨_, _, he, hs⟩ => ⟨he, hs.below⟩

variable {P R : HProp} {w0 : World}
/-- A cell of an element of a slice that came in. -/
theorem Rd.arr {α : Type} {en : α → List Value} {m b o : Nat} [Old P w0 R] {xs : List α} (h : ∀ i x j u, xs[i]? = some x → (en x)[j]? = some u → w0.cell? (ad b (o + i * m + j)) = some u) {i j : Nat} {x : α} {v : Value} (hx : xs[i]? = some x) (hj : (en x)[j]? = some v) : Rd P b (o + i * m + j) v :=
  Rd.old (h i x j v hx hj)

theorem Rd.of_take {S : HProp} [h : Take P S R] {b o : Nat} {v : Value} (hv : Rd S b o v) : Rd P b o v := fun σ w hs => by
  rw [h.eq] at hs
  exact hv σ w hs.left

/-- A slice that can be read where S holds. -/
structure RdS (S : HProp) {α : Type} (en : α → List Value) (m : Nat) (A : Option Addr) (xs : List α) : Prop where
  nonnil : ∀ k : Nat, k < xs.length → ∃ b o, A = some (ad b o)
  rd : ∀ b o, A = some (ad b o) → ∀ i x j u, xs[i]? = some x → (en x)[j]? = some u → Rd S b (o + i * m + j) u
theorem RdS.old {W : World} {α : Type} {en : α → List Value} {m len : Nat} {A : Option Addr} {xs : List α} (h : ArrIn W en m A len xs) : RdS (old W) en m A xs := by
  obtain ⟨h1, h2⟩ := h
  rcases h2 with h2 | ⟨b, o, rfl, h3⟩
  · have : xs = [] := List.eq_nil_of_length_eq_zero (by omega)
    subst this
    exact ⟨fun k hk => by simp at hk, fun b o _ i x j u hi => by simp at hi⟩
  · refine ⟨fun _ _ => ⟨b, o, rfl⟩, fun b' o' e i x j u hi hj => ?_⟩
    simp only [Option.some.injEq, Addr.mk.injEq] at e
    obtain ⟨rfl, rfl, _⟩ := e
    have h4 : Rd (sep (SLA.old W) (emp)) b (o + i * m + j) u := Rd.old (R := emp) (h3 i x j u hi hj)
    intro σ w hs
    refine h4 σ w ?_
    rw [sep_emp]; exact hs
theorem own_nonnil {σ w : World} {e m len : Nat} {A : Option Addr} {c : Nat} {l : List Value} (h : Sat σ w (sep (Own e m (.slice A len c) len l) (P))) : (A = none ∧ c = 0 ∧ len = 0 ∧ l = []) ∨ ∃ b o, A = some (ad b o) := by
  rcases sat_own h with ⟨h1, h2, h3, _⟩ | ⟨b, cap, pre, post, h1, _⟩
  · simp only [Value.slice.injEq] at h1
    exact .inl ⟨h1.1, h1.2.2, h2, h3⟩
  · simp only [Value.slice.injEq] at h1
    exact .inr ⟨_, _, h1.1⟩
theorem Rd.own {e m len b o : Nat} {c : Nat} {l : List Value} {j : Nat} {u : Value} (h : l[j]? = some u) : Rd (Own e m (.slice (some (ad b o)) len c) len l) b (o + j) u := fun σ w hs => by
  have hs' : Sat σ w (sep (Own e m (.slice (some (ad b o)) len c) len l) (emp)) := by rw [sep_emp]; exact hs
  rcases sat_own hs' with ⟨h1, _⟩ | ⟨b', cap, pre, post, h1, _, _, _, _, h6⟩
  · cases h1
  · simp only [Value.slice.injEq, Option.some.injEq, Addr.mk.injEq] at h1
    obtain ⟨⟨rfl, rfl, _⟩, _, _⟩ := h1
    have hj : j < l.length := by
      rcases Nat.lt_or_ge j l.length with h | h
      · exact h
      · rw [List.getElem?_eq_none h] at *; contradiction
    rw [cell_of_cel h6, mid_get _ _ _ _ hj, h]
/-- A slice of one's own can be read, element by element. -/
theorem RdS.own {α : Type} {en : α → List Value} {m e c : Nat} {A : Option Addr} {xs : List α} (hm : ∀ x, (en x).length = m) (hA : xs = [] ∨ ∃ b o, A = some (ad b o)) : RdS (Own e m (.slice A xs.length c) xs.length (xs.flatMap en)) en m A xs := by
  refine ⟨fun k hk => ?_, fun b o e i x j u hi hj => ?_⟩
  · rcases hA with rfl | h
    · simp at hk
    · exact h
  · subst e
    have hjm : j < m := by
      rcases Nat.lt_or_ge j (en x).length with h | h
      · rw [← hm x]; exact h
      · rw [List.getElem?_eq_none h] at hj; cases hj
    rw [Nat.add_assoc]
    exact Rd.own (by rw [flat_get hm xs i j x hi hjm, hj])

end Go.SLA
