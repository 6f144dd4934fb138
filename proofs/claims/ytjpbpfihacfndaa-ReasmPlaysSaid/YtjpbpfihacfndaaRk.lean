/- Plain laws of a table and of the parts that are looked up behind it; used by the text that imports this one. -/
import Derived.Test.YtjpbpfihacfndaaRj
import Derived.Test.YtjpbpfihacfndaaFi
import Derived.Test.YtjpbpfihacfndaaH
namespace Go.Proofs.Ytjpbpfihacfndaa
open Go.SLA
set_option maxRecDepth 100000
set_option linter.unusedVariables false
set_option linter.unusedSimpArgs false
attribute [local irreducible] J L K QL Rg FSpec OpV OpX Rd Back

/-- A part without its ticks to live. -/
def Pk.z (x : Pk) : Pk := ⟨x.id, x.more, x.off, 0, x.proto, x.s0, x.s1, x.s2, x.s3, x.d0, x.d1, x.d2, x.d3, x.data⟩
def useB (k : Ky) (i n : Nat) (x : Pk) : Prop := kyOf x = k ∧ ¬ (x.off = 0 ∧ x.more = false ∧ n < i)
instance (k : Ky) (i n : Nat) (x : Pk) : Decidable (useB k i n x) := inferInstanceAs (Decidable (_ ∧ _))
/-- The last parts of a packet among the first n, looked up from behind. -/
def sc (L : List Pk) (k : Ky) (i : Nat) : Nat → List Pk
  | 0 => []
  | n + 1 => match L[n]? with
    | none => []
    | some x => if useB k i n x then (if x.off = 0 then [x.z] else sc L k i n ++ [x.z]) else sc L k i n
theorem sc_skip {L : List Pk} {k : Ky} {i n : Nat} {x : Pk} (h : L[n]? = some x) (hu : ¬ useB k i n x) : sc L k i (n + 1) = sc L k i n := by
  rw [sc, h]
  dsimp only
  rw [if_neg hu]
theorem sc_first {L : List Pk} {k : Ky} {i n : Nat} {x : Pk} (h : L[n]? = some x) (hu : useB k i n x) (ho : x.off = 0) : sc L k i (n + 1) = [x.z] := by
  rw [sc, h]
  dsimp only
  rw [if_pos hu, if_pos ho]
theorem sc_next {L : List Pk} {k : Ky} {i n : Nat} {x : Pk} (h : L[n]? = some x) (hu : useB k i n x) (ho : x.off ≠ 0) : sc L k i (n + 1) = sc L k i n ++ [x.z] := by
  rw [sc, h]
  dsimp only
  rw [if_pos hu, if_neg ho]
theorem sc_top {L : List Pk} {k : Ky} {i i' : Nat} : ∀ n, n ≤ i → n ≤ i' → sc L k i n = sc L k i' n
  | 0, _, _ => rfl
  | n + 1, h, h' => by
    have ih := sc_top (L := L) (k := k) n (show n ≤ i by omega) (show n ≤ i' by omega)
    have hu : ∀ x, useB k i n x ↔ useB k i' n x := fun x => by
      unfold useB
      constructor
      · rintro ⟨a, b⟩; exact ⟨a, fun ⟨c, d, _⟩ => b ⟨c, d, by omega⟩⟩
      · rintro ⟨a, b⟩; exact ⟨a, fun ⟨c, d, _⟩ => b ⟨c, d, by omega⟩⟩
    rw [sc, sc]
    cases L[n]? with
    | none => rfl
    | some x =>
      dsimp only
      by_cases h1 : useB k i n x
      · rw [if_pos h1, if_pos ((hu x).1 h1), ih]
      · rw [if_neg h1, if_neg (fun g => h1 ((hu x).2 g)), ih]
theorem sc_mem {L : List Pk} {k : Ky} {i : Nat} : ∀ n, ∀ x ∈ sc L k i n, ∃ j y, j < n ∧ L[j]? = some y ∧ x = y.z ∧ kyOf y = k
  | 0, x, hx => by cases hx
  | n + 1, x, hx => by
    have ih := sc_mem (L := L) (k := k) (i := i) n
    have ih' : x ∈ sc L k i n → ∃ j y, j < n + 1 ∧ L[j]? = some y ∧ x = y.z ∧ kyOf y = k := fun g => by
      obtain ⟨j, y, a, b, c, d⟩ := ih x g
      exact ⟨j, y, by omega, b, c, d⟩
    rw [sc] at hx
    cases hL : L[n]? with
    | none => rw [hL] at hx; cases hx
    | some y =>
      rw [hL] at hx
      dsimp only at hx
      split at hx
      · rename_i hu
        split at hx
        · exact ⟨n, y, by omega, hL, List.mem_singleton.1 hx, hu.1⟩
        · rcases List.mem_append.1 hx with g | g
          · exact ih' g
          · exact ⟨n, y, by omega, hL, List.mem_singleton.1 g, hu.1⟩
      · exact ih' hx
/-- Parts that fit, with more to come. -/
def Good (l : List Pk) (d : ByteArray) : Prop := ∀ t, jrun (l ++ t) ByteArray.empty = jrun t d
theorem fit_snd {x : Pk} {a : Nat} (h : sndC x a = 0) {last : Bool} (hl : x.more = true ∨ last = true) : fitC x.z a last = 0 := by
  unfold sndC at h
  unfold fitC
  by_cases h1 : a % 8 ≠ 0 ∨ x.off ≠ ((a / 8 : Nat) : Int)
  · rw [if_pos h1] at h; cases h
  · rw [if_neg h1] at h
    by_cases h2 : x.more = true ∧ (x.data.size = 0 ∨ x.data.size % 8 ≠ 0)
    · rw [if_pos h2] at h; cases h
    · refine (if_neg h1).trans ((if_neg h2).trans (if_neg ?_))
      rintro ⟨g1, g2⟩
      have g1' : x.more = false := g1
      rcases hl with h | h
      · rw [g1'] at h; cases h
      · rw [g2] at h; cases h
theorem Good.one {x : Pk} (h : sndC x 0 = 0) (hm : x.more = true) : Good [x.z] x.data := fun t => by
  show jrun (x.z :: t) ByteArray.empty = _
  have : fitC x.z (ByteArray.empty).size t.isEmpty = 0 := fit_snd h (.inl hm)
  rw [jrun_ok this]
  show jrun t (ByteArray.empty ++ x.data) = _
  simp
theorem Good.more {l : List Pk} {d : ByteArray} {x : Pk} (hg : Good l d) (h : sndC x d.size = 0) (hm : x.more = true) : Good (l ++ [x.z]) (d ++ x.data) := fun t => by
  rw [List.append_assoc, hg]
  show jrun (x.z :: t) d = _
  rw [jrun_ok (fit_snd h (.inl hm))]
  rfl
theorem Good.last {l : List Pk} {d : ByteArray} {x : Pk} (hg : Good l d) (h : sndC x d.size = 0) : jrun (l ++ [x.z]) ByteArray.empty = (0, d ++ x.data) := by
  rw [hg]
  rw [jrun_ok (fit_snd h (.inr rfl))]
  rfl
theorem jrun_whole {x : Pk} (ho : x.off = 0) (hm : x.more = false) : jrun [x.z] ByteArray.empty = (0, x.data) := by
  have hz : (ByteArray.empty).size = 0 := rfl
  have : fitC x.z (ByteArray.empty).size ([] : List Pk).isEmpty = 0 := by
    rw [hz]
    refine fit_d (by rintro (g | g); omega; exact g ho) ?_ ?_
    · rintro ⟨g, _⟩; have g' : x.more = true := g; rw [hm] at g'; cases g'
    · rintro ⟨_, g⟩; cases g
  rw [jrun_ok this]
  show (0, ByteArray.empty ++ x.data) = _
  simp
theorem bare_ky {x y : Pk} (h : kyOf x = kyOf y) (h1 : x.ttl = 0) (h2 : y.ttl = 0) : bareEq x y := by
  unfold kyOf at h
  simp only [Ky.mk.injEq] at h
  unfold bareEq
  rw [h1, h2]
  simp [h]
theorem join_ky {l : List Pk} {x : Pk} {k : Ky} {d : ByteArray} (hk : ∀ y ∈ l ++ [x], kyOf y = k ∧ y.ttl = 0) (hm : x.more = false) (hj : jrun (l ++ [x]) ByteArray.empty = (0, d)) (hd : d.size ≤ 65515) : (joinC (l ++ [x])).2 = 0 ∧ (joinC (l ++ [x])).1.data = d := by
  obtain ⟨x0, l0, e0⟩ : ∃ x0 l0, l ++ [x] = x0 :: l0 := by
    cases l with
    | nil => exact ⟨_, _, rfl⟩
    | cons y l => exact ⟨_, _, rfl⟩
  have hlast : (l ++ [x])[(((l ++ [x]).length : Int) - 1).toNat]? = some x := by
    have : (((l ++ [x]).length : Int) - 1).toNat = l.length := by rw [List.length_append, List.length_singleton]; omega
    rw [this]
    simp
  have h0 : (l ++ [x])[0]? = some x0 := by rw [e0]; rfl
  have hmem : x0 ∈ l ++ [x] := by rw [e0]; exact List.mem_cons_self ..
  have hodd : ¬ odd (l ++ [x]) x0 < (l ++ [x]).length := by
    intro g
    have hg := List.findIdx_getElem (w := g)
    simp only [decide_eq_true_eq] at hg
    have a := hk _ (List.getElem_mem g)
    have b := hk _ hmem
    exact hg (bare_ky (a.1.trans b.1.symm) a.2 b.2)
  rw [join_ok h0 hodd (by rw [hj]) hlast (by rw [hm]; simp) (by rw [hj]; dsimp only; omega), hj]
  exact ⟨rfl, rfl⟩
theorem bfind_wob {q : List Bg} {k : Ky} : bfind (wob q k) k = none := by
  unfold bfind wob
  rw [List.find?_eq_none]
  intro b hb
  rw [List.mem_filter] at hb
  simpa using hb.2
theorem bfind_free {T : TS} {k : Ky} : bfind (T.free k).q k = none := by
  unfold TS.free
  split
  · exact bfind_wob
  · rename_i h
    unfold bfind
    rw [List.find?_eq_none]
    intro b hb hk
    simp only [decide_eq_true_eq] at hk
    exact h (by rw [← hk]; exact List.mem_map_of_mem hb)
/-- What is true of a table behind so many parts. -/
structure OInv (L : List Pk) (i : Nat) (T : TS) : Prop where
  ok : TOk i T
  now : T.now ≤ i
  small : ∀ j x, j < i → L[j]? = some x → x.data.size ≤ 500
  good : ∀ k b, bfind T.q k = some b → Good (sc L k i i) b.data
theorem snd_le {x : Pk} {a : Nat} (h : sndC x a = 0) : a + x.data.size ≤ 8200 := by
  unfold sndC at h
  split at h
  · cases h
  · split at h
    · cases h
    · split at h
      · cases h
      · omega
theorem OInv.keys {L : List Pk} {k : Ky} {i n : Nat} : ∀ y ∈ sc L k i n, kyOf y = k ∧ y.ttl = 0 := fun y hy => by
  obtain ⟨j, x, _, _, rfl, h⟩ := sc_mem n y hy
  exact ⟨h, rfl⟩
/-- A packet that comes out has the bytes of the last parts of its key. -/
def Outs (L : List Pk) (i : Nat) (x q : Pk) : Prop := kyOf q = kyOf x ∧ (joinC (sc L (kyOf x) i (i + 1))).2 = 0 ∧ (joinC (sc L (kyOf x) i (i + 1))).1.data = q.data
theorem OInv.step {L : List Pk} {i : Nat} {T : TS} {x : Pk} (h : OInv L i T) (hx : L[i]? = some x) (hi : i ≤ 100) (hz : x.data.size ≤ 500) : OInv L (i + 1) (T.put 64 100 i x).2 ∧ ((T.put 64 100 i x).1.2.1 = true → Outs L i x (T.put 64 100 i x).1.1) := by
  have hf := h.ok.fresh (wt := 100) (now := i) (by omega)
  have hp := pass_fresh hf
  have ht : timC T.now i = 0 := tim0 h.now (by omega)
  have hnw := put_now T 64 100 i x
  have hnow := h.now
  have base : (∀ b, bfind (T.put 64 100 i x).2.q (kyOf x) = some b → Good (sc L (kyOf x) (i + 1) (i + 1)) b.data) → OInv L (i + 1) (T.put 64 100 i x).2 := fun hk => by
    refine ⟨h.ok.put _ _ _ _, by omega, fun j y hj hy => ?_, fun k b hb => ?_⟩
    · rcases (show j < i ∨ j = i by omega) with g | rfl
      · exact h.small j y g hy
      · rw [hx] at hy; cases hy; exact hz
    · by_cases e : k = kyOf x
      · subst e; exact hk b hb
      · rw [put_other e hf] at hb
        rw [sc_skip hx (fun g => e g.1.symm), sc_top (i' := i) i (by omega) (Nat.le_refl _)]
        exact h.good k b hb
  by_cases ho : x.off = 0
  · cases hm : x.more with
    | false =>
      have e := put_whole (m := 64) (wt := 100) ht ho hm
      refine ⟨base fun b hb => ?_, fun _ => ?_⟩
      · rw [e, hp] at hb
        rw [sc_skip hx (fun g => g.2 ⟨ho, hm, by omega⟩), sc_top (i' := i) i (by omega) (Nat.le_refl _)]
        exact h.good _ b hb
      · rw [e]
        have hs := sc_first (L := L) (k := kyOf x) (i := i) hx ⟨rfl, fun g => absurd g.2.2 (Nat.lt_irrefl _)⟩ ho
        refine ⟨rfl, ?_⟩
        rw [hs]
        exact join_ky (l := []) (x := x.z) (k := kyOf x) (fun y hy => by rw [List.mem_singleton.1 hy]; exact ⟨rfl, rfl⟩) hm (jrun_whole ho hm) (by show x.data.size ≤ 65515; omega)
    | true =>
      have e := put_begin (m := 64) (wt := 100) ht ho hm
      refine ⟨base fun b hb => ?_, fun g => by rw [e] at g; cases g⟩
      rw [e, hp] at hb
      rw [sc_first hx ⟨rfl, fun g => by rw [hm] at g; cases g.2.1⟩ ho]
      by_cases h1 : sndC x 0 = 0
      · by_cases h2 : (64 : Int) ≤ ((TS.free ⟨T.q, (i : Int), T.dr⟩ (kyOf x)).q.length : Int)
        · rw [begn_full h1 h2, bfind_free] at hb; cases hb
        · rw [begn_ok h1 h2] at hb
          have hb2 : bfind ((TS.free ⟨T.q, (i : Int), T.dr⟩ (kyOf x)).q ++ [⟨kyOf x, (TS.free ⟨T.q, (i : Int), T.dr⟩ (kyOf x)).now, x.data⟩]) (kyOf x) = some b := hb
          have hn := bfind_free (T := ⟨T.q, (i : Int), T.dr⟩) (k := kyOf x)
          unfold bfind at hb2 hn
          rw [List.find?_append, hn] at hb2
          simp at hb2
          rw [← hb2]
          exact Good.one h1 hm
      · rw [begn_bad h1, bfind_free] at hb; cases hb
  · have hu : ∀ n j, useB (kyOf x) n j x := fun n j => ⟨rfl, fun g => ho g.1⟩
    cases hb : bfind (T.pass 100 i).q (kyOf x) with
    | none =>
      have e := put_none (m := 64) ht ho hb
      refine ⟨base fun b hb2 => ?_, fun g => by rw [e] at g; cases g⟩
      rw [e, hb] at hb2; cases hb2
    | some b =>
      have e := put_some (m := 64) ht ho hb
      rw [hp] at hb e
      have hg := h.good _ b hb
      by_cases hs : sndC x b.data.size = 0
      · rw [if_neg (fun n => n hs)] at e
        have hsz := snd_le hs
        cases hm : x.more with
        | true =>
          rw [if_pos hm] at e
          refine ⟨base fun b2 hb2 => ?_, fun g => by rw [e] at g; cases g⟩
          rw [e] at hb2
          have hb3 : bfind (upd T.q (kyOf x) x.data) (kyOf x) = some b2 := hb2
          rw [bfind_upd, hb] at hb3
          simp only [Option.map_some, Option.some.injEq] at hb3
          rw [if_pos (bfind_k hb)] at hb3
          rw [← hb3, sc_next hx (hu _ _) ho, sc_top (i' := i) i (by omega) (Nat.le_refl _)]
          exact hg.more hs hm
        | false =>
          rw [if_neg (by rw [hm]; decide)] at e
          refine ⟨base fun b2 hb2 => ?_, fun _ => ?_⟩
          · rw [e] at hb2
            have hb3 : bfind (wob T.q (kyOf x)) (kyOf x) = some b2 := hb2
            rw [bfind_wob] at hb3; cases hb3
          · rw [e]
            refine ⟨rfl, ?_⟩
            rw [sc_next hx (hu _ _) ho]
            exact join_ky (k := kyOf x) (fun y hy => by
              rcases List.mem_append.1 hy with g | g
              · exact OInv.keys y g
              · rw [List.mem_singleton.1 g]; exact ⟨rfl, rfl⟩) hm (hg.last hs) (by rw [ByteArray.size_append]; omega)
      · rw [if_pos hs] at e
        refine ⟨base fun b2 hb2 => ?_, fun g => by rw [e] at g; cases g⟩
        rw [e] at hb2
        have hb3 : bfind (wob T.q (kyOf x)) (kyOf x) = some b2 := hb2
        rw [bfind_wob] at hb3; cases hb3

end Go.Proofs.Ytjpbpfihacfndaa
