/- Plain laws of the parts of a packet: how many there are, what each holds, and that they join to the packet; used by the texts that import this one. -/
import Derived.Test.YtjpbpfihacfndaaFi
import Derived.Test.YtjpbpfihacfndaaFe
import Derived.Test.YtjpbpfihacfndaaH
namespace Go.Proofs.Ytjpbpfihacfndaa
open Go.SLA
set_option maxRecDepth 100000
set_option linter.unusedVariables false
set_option linter.unusedSimpArgs false
attribute [local irreducible] J L K QL Rg FSpec OpV OpX Rd Back

theorem kcat (s : ByteArray) (a e : Nat) (h : a ≤ e) : s.extract 0 a ++ s.extract a e = s.extract 0 e := by
  rw [ByteArray.extract_append_extract]
  congr 1 <;> omega
theorem kall (s : ByteArray) : s.extract 0 s.size = s := by simp
theorem splitL_n {p : Pk} {m : Nat} (hm : 64 ≤ m) (a : Nat) (ha : a ≤ p.data.size) : (splitL p (m - 39) (roomN m) a).length = partsN (p.data.size - a) m := by
  have hr := roomN_ge hm
  refine splitL_ind (p := p) (w := m - 39) (r := roomN m) (M := fun a l => a ≤ p.data.size → l.length = partsN (p.data.size - a) m) (fun a h ha => ?_) (fun a l h ih ha => ?_) (by omega) a ha
  · rw [partsN_one hm (by omega)]; rfl
  · rw [partsN_more hm (by omega), List.length_cons, ih (by omega), show p.data.size - (a + roomN m) = p.data.size - a - roomN m by omega]
    omega
/-- What is true of each part. -/
def Part (p : Pk) (w : Nat) (x : Pk) : Prop := x.data.size ≤ w ∧ (0 ≤ x.off ∧ x.off ≤ 8191) ∧ x.id = p.id ∧ x.ttl = p.ttl ∧ x.proto = p.proto ∧ x.s0 = p.s0 ∧ x.s1 = p.s1 ∧ x.s2 = p.s2 ∧ x.s3 = p.s3 ∧ x.d0 = p.d0 ∧ x.d1 = p.d1 ∧ x.d2 = p.d2 ∧ x.d3 = p.d3
theorem prt_part {p : Pk} {w a e : Nat} (h : e ≤ p.data.size) (h2 : e - a ≤ w) (h3 : a ≤ 65528) : Part p w (prt p a e) := by
  refine ⟨by rw [part_size p a e h]; exact h2, ⟨?_, ?_⟩, rfl, rfl, rfl, rfl, rfl, rfl, rfl, rfl, rfl, rfl, rfl⟩
  · show 0 ≤ ((a / 8 : Nat) : Int); omega
  · show ((a / 8 : Nat) : Int) ≤ 8191; omega
theorem splitL_part {p : Pk} {w r : Nat} (hr : 0 < r) (hw : r ≤ w) (hz : p.data.size ≤ 65515) (a : Nat) (ha : a ≤ p.data.size) : ∀ x ∈ splitL p w r a, Part p w x :=
  splitL_ind (p := p) (w := w) (r := r) (M := fun a l => a ≤ p.data.size → ∀ x ∈ l, Part p w x) (fun a h ha x hx => by rw [List.mem_singleton.1 hx]; exact prt_part (Nat.le_refl _) (by omega) (by omega)) (fun a l h ih ha x hx => by
    rcases List.mem_cons.1 hx with rfl | hx
    · exact prt_part (by omega) (by omega) (by omega)
    · exact ih (by omega) x hx) hr a ha
theorem splitL_more {p : Pk} {w r : Nat} (hr : 0 < r) (hw : r ≤ w) (a : Nat) : ∀ i x, (splitL p w r a)[i]? = some x → x.more = decide (i + 1 < (splitL p w r a).length) := by
  have := splitL_ind (p := p) (w := w) (r := r) (M := fun a l => 1 ≤ l.length ∧ ∀ i x, l[i]? = some x → x.more = decide (i + 1 < l.length)) (fun a h => ?_) (fun a l h ih => ?_) hr a
  · exact this.2
  · refine ⟨Nat.le_refl _, fun i x hx => ?_⟩
    cases i with
    | zero =>
      simp only [List.getElem?_cons_zero, Option.some.injEq] at hx
      rw [← hx]
      show decide (p.data.size < p.data.size) = decide (0 + 1 < 1)
      rw [decide_eq_false (by omega), decide_eq_false (by omega)]
    | succ i => simp at hx
  · refine ⟨by simp, fun i x hx => ?_⟩
    cases i with
    | zero =>
      simp only [List.getElem?_cons_zero, Option.some.injEq] at hx
      rw [← hx]
      show decide (a + r < p.data.size) = decide (0 + 1 < l.length + 1)
      have := ih.1
      rw [decide_eq_true (by omega), decide_eq_true (by omega)]
    | succ i =>
      simp only [List.getElem?_cons_succ] at hx
      rw [ih.2 i x hx, List.length_cons]
      exact decide_eq_decide.2 (by omega)
theorem splitL_bare {p : Pk} {w r : Nat} (hr : 0 < r) (a b e : Nat) : ∀ x ∈ splitL p w r a, bareEq x (prt p b e) :=
  splitL_ind (p := p) (w := w) (r := r) (M := fun a l => ∀ x ∈ l, bareEq x (prt p b e)) (fun a h x hx => by rw [List.mem_singleton.1 hx]; simp [bareEq, prt]) (fun a l h ih x hx => by
    rcases List.mem_cons.1 hx with rfl | hx
    · simp [bareEq, prt]
    · exact ih x hx) hr a
theorem jrun_split {p : Pk} {w r : Nat} (hr : 0 < r) (hr8 : r % 8 = 0) (hw : r ≤ w) (a : Nat) (ha : a ≤ p.data.size) (h8 : a % 8 = 0) : jrun (splitL p w r a) (p.data.extract 0 a) = (0, p.data) := by
  refine (splitL_ind (p := p) (w := w) (r := r) (M := fun a l => l ≠ [] ∧ (a ≤ p.data.size → a % 8 = 0 → jrun l (p.data.extract 0 a) = (0, p.data))) (fun a h => ?_) (fun a l h ih => ?_) hr a).2 ha h8
  · refine ⟨by simp, fun ha h8 => ?_⟩
    have hs : (p.data.extract 0 a).size = a := by rw [ByteArray.size_extract]; omega
    have hf : fitC (prt p a p.data.size) (p.data.extract 0 a).size ([] : List Pk).isEmpty = 0 := by
      rw [hs]
      refine fit_d (by rintro (g | g); omega; exact g rfl) ?_ ?_
      · rintro ⟨g, _⟩
        have : (prt p a p.data.size).more = false := decide_eq_false (by omega)
        rw [this] at g; cases g
      · rintro ⟨_, g⟩; cases g
    rw [jrun_ok hf]
    show (0, p.data.extract 0 a ++ p.data.extract a p.data.size) = _
    rw [kcat _ _ _ ha, kall]
  · refine ⟨by simp, fun ha h8 => ?_⟩
    have hs : (p.data.extract 0 a).size = a := by rw [ByteArray.size_extract]; omega
    have hps := part_size p a (a + r) (by omega)
    have hmo : (prt p a (a + r)).more = true := decide_eq_true (by omega)
    have hf : fitC (prt p a (a + r)) (p.data.extract 0 a).size l.isEmpty = 0 := by
      rw [hs]
      refine fit_d (by rintro (g | g); omega; exact g rfl) ?_ ?_
      · rintro ⟨_, g⟩; rw [hps] at g; omega
      · rintro ⟨g, _⟩; rw [hmo] at g; cases g
    rw [jrun_ok hf]
    have := ih.2 (by omega) (by omega)
    rw [← kcat p.data a (a + r) (by omega)] at this
    exact this
theorem join_parts {p : Pk} {m : Nat} (hm : 64 ≤ m ∧ m ≤ 1518) (h : p.more = false) (ho : p.off = 0) (hd : p.data.size ≤ 20000) : joinC (partsC p m) = (p, 0) ∧ (partsC p m).length = partsN p.data.size m ∧ (partsC p m).length ≤ 1000 ∧ (∀ x ∈ partsC p m, Part p (m - 39) x) ∧ ∀ i x, (partsC p m)[i]? = some x → x.more = decide (i + 1 < (partsC p m).length) := by
  have hr := roomN_ge hm.1
  have e : partsC p m = splitL p (m - 39) (roomN m) 0 := by
    unfold partsC
    rw [if_pos (small_code hm h ho (by omega))]
    rfl
  rw [e]
  have hl := splitL_len (p := p) (w := m - 39) (r := roomN m) (by omega) (by omega) 0 (by omega)
  have hn := splitL_n (p := p) hm.1 0 (by omega)
  rw [Nat.sub_zero] at hn
  have hj := jrun_split (p := p) (w := m - 39) (r := roomN m) (by omega) (by omega) (by omega) 0 (by omega) rfl
  rw [show p.data.extract 0 0 = ByteArray.empty by simp] at hj
  refine ⟨?_, hn, ?_, splitL_part (by omega) (by omega) (by omega) 0 (by omega), splitL_more (by omega) (by omega) 0⟩
  · obtain ⟨x0, l0, hx0, hb⟩ : ∃ x0 l0, splitL p (m - 39) (roomN m) 0 = x0 :: l0 ∧ ∃ e, x0 = prt p 0 e := by
      rw [splitL]
      split
      · exact ⟨_, _, rfl, _, rfl⟩
      · exact ⟨_, _, rfl, _, rfl⟩
    obtain ⟨e0, rfl⟩ := hb
    have hL0 : (splitL p (m - 39) (roomN m) 0)[0]? = some (prt p 0 e0) := by rw [hx0]; rfl
    have hpos : 0 < (splitL p (m - 39) (roomN m) 0).length := by rw [hx0]; simp
    obtain ⟨xl, hxl⟩ : ∃ xl, (splitL p (m - 39) (roomN m) 0)[(((splitL p (m - 39) (roomN m) 0).length : Int) - 1).toNat]? = some xl := ⟨_, List.getElem?_eq_getElem (by omega)⟩
    have hmo := splitL_more (p := p) (w := m - 39) (r := roomN m) (by omega) (by omega) 0 _ _ hxl
    rw [decide_eq_false (by omega)] at hmo
    have hodd : ¬ odd (splitL p (m - 39) (roomN m) 0) (prt p 0 e0) < (splitL p (m - 39) (roomN m) 0).length := by
      intro g
      have hg := List.findIdx_getElem (w := g)
      simp only [decide_eq_true_eq] at hg
      exact hg (splitL_bare (by omega) 0 0 e0 _ (List.getElem_mem _))
    rw [join_ok hL0 hodd (by rw [hj]) hxl (by rw [hmo]; simp) (by rw [hj]; dsimp only; omega), hj]
    obtain ⟨id, more, off, ttl, proto, s0, s1, s2, s3, d0, d1, d2, d3, data⟩ := p
    dsimp only at h ho
    subst h ho
    rfl
  · rw [hn]
    unfold partsN
    have h1 : (p.data.size - (m - 39) + roomN m - 1) / roomN m ≤ (p.data.size - (m - 39) + roomN m - 1) / 24 := Nat.div_le_div_left (by omega) (by omega)
    have h2 : (p.data.size - (m - 39) + roomN m - 1) / 24 ≤ 22000 / 24 := Nat.div_le_div_right (by omega)
    omega

end Go.Proofs.Ytjpbpfihacfndaa
