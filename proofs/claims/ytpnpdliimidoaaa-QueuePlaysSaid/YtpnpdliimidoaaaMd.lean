/- Contracts of functions of the translation, each proved by a walk over its code; they are used by the texts that import this one. -/
import Derived.Test.YtpnpdliimidoaaaMc
import Derived.Test.YtpnpdliimidoaaaRows
import Derived.Test.YtpnpdliimidoaaaH
namespace Go.Proofs.Ytpnpdliimidoaaa
open Go.SLA
set_option maxRecDepth 100000
set_option linter.unusedVariables false
set_option linter.unusedSimpArgs false
attribute [local irreducible] J L K QL Rg FSpec OpV OpX Rd Back
def xs : Nat → ByteArray
  | 0 => ⟨#[]⟩
  | n + 1 => xs n ++ ⟨#[120]⟩
theorem xs_size : ∀ n, (xs n).size = n
  | 0 => rfl
  | n + 1 => by rw [xs, ByteArray.size_append, xs_size n]; rfl

theorem bytes_spec (n : Nat) (hn : n ≤ 1000000) : FSpec Try.prog 40 #[.int .i64 n] (emp) (fun _ : Unit => True) (fun _ => .string (xs n)) (fun _ => emp) := by
  refine FSpec.enter' Try.func40 rfl Try.ntmps40 rfl fun σ F => ?_
  refine J_seq ?_
  refine J_region ?_
  refine L_v (opv_assign rfl) rfl ?_
  refine L_nil ?_
  refine K_then ?_
  refine J_seq ?_
  refine J_region ?_
  refine L_v (opv_assign rfl) rfl ?_
  refine L_nil ?_
  refine K_then ?_
  refine J_seq ?_
  refine J_block ?_
  refine J_loop (X := Nat) (fun k => [(0, .int .i64 n), (3, .string (xs k))]) (fun k => (sep (emp) (F))) (fun k => k ≤ n) (fun k => n - k) (0) (Nat.zero_le _) ⟨rfl, rfl, trivial⟩ (Ent.refl _) (fun k hk => ?_)
  have hs := xs_size k
  refine J_seq ?_
  refine J_seq ?_
  refine J_region ?_
  refine L_v (opv_move rfl) rfl ?_
  first
    | refine L_v (opv_lenL rfl) rfl ?_
    | refine L_v (opv_lenS rfl) rfl ?_
  refine L_v (opv_move rfl) rfl ?_
  refine L_v (opv_lss rfl rfl) rfl ?_
  refine L_nil ?_
  refine K_then ?_
  refine J_cond rfl (fun h1 => ?_) (fun h1 => ?_)
  · refine J_skip ?_
    refine K_then ?_
    refine J_block ?_
    refine J_region ?_
    refine L_v (opv_move rfl) rfl ?_
    refine L_v (opv_addS rfl rfl (by have e : (⟨#[120]⟩ : ByteArray).size = 1 := rfl; omega)) rfl ?_
    refine L_v (opv_assign rfl) rfl ?_
    refine L_nil ?_
    refine K_block ?_
    exact K_loop (k + 1) (by omega) (by omega) ⟨rfl, rfl, trivial⟩ (Ent.refl _)
  · refine J_exit ?_
    refine K_then_exit ?_
    refine K_then_exit ?_
    refine K_block_here ?_
    refine K_then ?_
    refine J_seq ?_
    refine J_region ?_
    refine L_v (opv_move rfl) rfl ?_
    refine L_v (opv_assign rfl) rfl ?_
    refine L_nil ?_
    refine K_then ?_
    refine J_ret ?_
    obtain rfl : k = n := by omega
    exact K_ret1 rfl rfl () trivial (rfl) (Ent.refl _)

def gAt (p : Nat) (x : Option Addr × Nat) (g q : List Sn) (cur free : Int) : Rep → HProp
  | .nil => (sep (lift (x = (none, 0) ∧ g = [] ∧ q = [])) (cel p [.slice none 0 0, .int .i64 cur, .int .i64 free] 76))
  | .at b cap pre post => (sep (lift (x = (some (ad b pre.length), g.length) ∧ g.length + q.length ≤ cap ∧ cap ≤ maxLen ∧ (cap - (g.length + q.length)) * 4 ≤ post.length)) (sep (cel p [.slice (some (ad b (if cap = g.length then pre.length else pre.length + g.length * 4))) q.length (cap - g.length), .int .i64 cur, .int .i64 free] 76) (cel b (pre ++ flat g ++ (flat q ++ post)) 30)))
/-- A wire at p behind a Pass that answered the slice x, of g. -/
def GoneP (p : Nat) (x : Option Addr × Nat) (g q : List Sn) (cur free : Int) : HProp := ex (gAt p x g q cur free)
theorem GoneP.forget {p : Nat} {x : Option Addr × Nat} {g q : List Sn} {cur free : Int} : Ent (GoneP p x g q cur free) (LineP p q cur free) := by
  rintro h ⟨r, hr⟩
  cases r with
  | nil =>
    obtain ⟨h1, h2, ha, rfl, ⟨⟨rfl, rfl, rfl⟩, rfl⟩, hc⟩ := hr
    have e : Heap.join (fun _ => none) h2 = h2 := by funext b; simp [Heap.join]
    rw [e]
    refine Ent.trans (Ent.trans (Ent.of (sep_emp _).symm) (Ent.frame_left (Own.nil 30 4) _)) (Ent.exo (f := fun x : Option Addr × Nat => (sep (cel p [.slice x.1 ([] : List Sn).length x.2, .int .i64 cur, .int .i64 free] 76) (Own 30 4 (.slice x.1 ([] : List Sn).length x.2) ([] : List Sn).length (flat [])))) (none, 0)) h2 hc
  | «at» b cap pre post =>
    obtain ⟨h1, h2, ha, rfl, ⟨⟨rfl, h3, h4, h5⟩, rfl⟩, hc⟩ := hr
    have e : Heap.join (fun _ => none) h2 = h2 := by funext b; simp [Heap.join]
    rw [e]
    have hg := flat_length g
    have hq := flat_length q
    refine Ent.trans ?_ (Ent.exo (f := fun x : Option Addr × Nat => (sep (cel p [.slice x.1 q.length x.2, .int .i64 cur, .int .i64 free] 76) (Own 30 4 (.slice x.1 q.length x.2) q.length (flat q)))) (some (ad b (if cap = g.length then pre.length else pre.length + g.length * 4)), cap - g.length)) h2 hc
    refine Ent.frame_left ?_ _
    by_cases hcap : cap = g.length
    · have hq0 : q = [] := List.eq_nil_of_length_eq_zero (by omega)
      subst hq0
      have := Own.mk (e := 30) (m := 4) (len := 0) (b := b) (cap := cap - g.length) (v := .slice (some (ad b pre.length)) 0 (cap - g.length)) (l := []) (pre := pre) (post := flat g ++ post) rfl (by omega) (by omega) (by simp) (by rw [hcap]; simp)
      rw [if_pos hcap]
      simpa [flat] using this
    · have := Own.mk (e := 30) (m := 4) (len := q.length) (b := b) (cap := cap - g.length) (v := .slice (some (ad b (pre ++ flat g).length)) q.length (cap - g.length)) (l := flat q) (pre := pre ++ flat g) (post := post) rfl (by omega) (by omega) hq (by rw [show cap - g.length - q.length = cap - (g.length + q.length) by omega]; exact h5)
      rw [if_neg hcap]
      rw [List.length_append, hg] at this
      rw [← List.append_assoc]
      exact this
theorem GoneP.flat {p : Nat} {x : Option Addr × Nat} {g q : List Sn} {cur free : Int} {R P : HProp} [h : Take P (GoneP p x g q cur free) R] {b o : Nat} (hx : x.1 = some (ad b o)) {j : Nat} {u : Value} (hj : (g.flatMap enc)[j]? = some u) : Rd P b (o + j) u := by
  unfold Rd
  intro σ w hs
  rw [h.eq] at hs
  obtain ⟨r, hr⟩ := sat_ex.1 hs
  cases r with
  | nil =>
    simp only [gAt, sep_assoc] at hr
    obtain ⟨⟨h1, rfl, _⟩, _⟩ := sat_lift.1 hr
    simp at hj
  | «at» b' cap pre post =>
    simp only [gAt, sep_assoc] at hr
    obtain ⟨⟨h1, _⟩, h6⟩ := sat_lift.1 hr
    subst h1
    simp only [Option.some.injEq, Addr.mk.injEq] at hx
    obtain ⟨rfl, rfl, _⟩ := hx
    have hl : j < (g.flatMap enc).length := by
      rcases Nat.lt_or_ge j (g.flatMap enc).length with h | h
      · exact h
      · rw [List.getElem?_eq_none h] at hj; cases hj
    rw [cell_of_cel h6.drop, mid_get _ _ _ _ hl, hj]
theorem GoneP.reads {p : Nat} {x : Option Addr × Nat} {g q : List Sn} {cur free : Int} {R P : HProp} [h : Take P (GoneP p x g q cur free) R] {b o : Nat} (hx : x.1 = some (ad b o)) {i j : Nat} {y : Sn} {u : Value} (hi : g[i]? = some y) (hj : (enc y)[j]? = some u) : Rd P b (o + i * 4 + j) u := by
  have hjm : j < 4 := by
    rcases Nat.lt_or_ge j (enc y).length with h | h
    · exact h
    · rw [List.getElem?_eq_none h] at hj; cases hj
  rw [Nat.add_assoc]
  exact GoneP.flat (p := p) (x := x) (g := g) (q := q) (cur := cur) (free := free) hx (by rw [flat_get enc_len g i j y hi hjm, hj])
theorem GoneP.src {p : Nat} {x : Option Addr × Nat} {g q : List Sn} {cur free : Int} {R P : HProp} [h : Take P (GoneP p x g q cur free) R] (hx : (x = (none, 0) ∧ g = []) ∨ ∃ b o, x = (some (ad b o), g.length)) : SLA.Src P (.slice x.1 g.length x.2) g.length (g.flatMap enc) := by
  rcases hx with ⟨rfl, rfl⟩ | ⟨b, o, rfl⟩
  · exact .inl ⟨rfl, rfl, rfl⟩
  · exact .inr ⟨b, o, _, rfl, fun j u hj => GoneP.flat (p := p) (x := (some (ad b o), g.length)) (g := g) (q := q) (cur := cur) (free := free) rfl hj⟩
theorem GoneP.some {p : Nat} {x : Option Addr × Nat} {g q : List Sn} {cur free : Int} {R P : HProp} {σ w : World} [h : Take P (GoneP p x g q cur free) R] (hs : Sat σ w P) : (x = (none, 0) ∧ g = []) ∨ ∃ b o, x = (some (ad b o), g.length) := by
  rw [h.eq] at hs
  obtain ⟨r, hr⟩ := sat_ex.1 hs
  cases r with
  | nil =>
    simp only [gAt, sep_assoc] at hr
    obtain ⟨⟨h1, rfl, _⟩, _⟩ := sat_lift.1 hr
    exact .inl ⟨h1, rfl⟩
  | «at» b' cap pre post =>
    simp only [gAt, sep_assoc] at hr
    obtain ⟨⟨h1, _⟩, h6⟩ := sat_lift.1 hr
    exact .inr ⟨_, _, h1⟩
theorem Pass_ok (p : Nat) (q : List Sn) (cur free now : Int) (h : tim cur now = 0) (hq : q.length ≤ 9000000000000000000) : FSpec Try.prog 20 #[.pointer (some (ad p 0)), .int .i64 now] (LineP p q cur free) (fun _ : Option Addr × Nat => True)
    (fun x => .tuple #[.slice x.1 (q.take (fst q now)).length x.2, .int .i64 0]) (fun x => GoneP p x (q.take (fst q now)) (q.drop (fst q now)) now free) := by
  have hle := fst_le q now
  have h1 : (q.take (fst q now)).length = fst q now := by rw [List.length_take]; omega
  have h2 : (q.drop (fst q now)).length = q.length - fst q now := by rw [List.length_drop]
  have h3 : flat (q.take (fst q now)) ++ flat (q.drop (fst q now)) = flat q := by rw [← List.flatMap_append, List.take_append_drop]
  rw [h1]
  refine FSpec.ex fun y => ?_
  refine FSpec.eq _ (sep_comm _ _) ?_
  refine FSpec.own (fun e0 e1 e2 => ?_) (fun b cap pre post e1 e2 e3 e4 e5 => ?_)
  · have hq0 : q = [] := List.eq_nil_of_length_eq_zero e1
    subst hq0
    simp only [Value.slice.injEq] at e0
    obtain ⟨a1, _, a2⟩ := e0
    rw [a1, a2]
    refine (Pass_blk_none p cur free now h).conseq (Ent.refl _) fun _ _ => ⟨(none, 0), trivial, rfl, ?_⟩
    exact Ent.trans (Ent.lift ⟨rfl, rfl, rfl⟩) (Ent.exo (f := gAt p (none, 0) [] [] now free) .nil)
  · simp only [Value.slice.injEq] at e1
    obtain ⟨a1, _, a2⟩ := e1
    rw [a1, a2]
    have fin : ∀ n, fst q now = n → Ent (sep (cel p [.slice (some (ad b (if cap = n then pre.length else pre.length + n * 4))) (q.length - n) (cap - n), .int .i64 now, .int .i64 free] 76) (cel b (pre ++ flat q ++ post) 30))
        (GoneP p (some (ad b pre.length), n) (q.take (fst q now)) (q.drop (fst q now)) now free) := by
      intro n hn
      refine Ent.trans ?_ (Ent.exo (f := gAt p (some (ad b pre.length), n) (q.take (fst q now)) (q.drop (fst q now)) now free) (.at b cap pre post))
      refine Ent.trans ?_ (Ent.lift ⟨by rw [h1, hn], by omega, e3, by rw [h1, h2, show cap - (fst q now + (q.length - fst q now)) = cap - q.length by omega]; exact e5⟩)
      rw [h1, h2, hn]
      refine Ent.of ?_
      rw [hn] at h3
      rw [show pre ++ flat (q.take n) ++ (flat (q.drop n) ++ post) = pre ++ flat q ++ post by rw [← h3]; simp]
    rcases Nat.lt_or_ge (fst q now) q.length with hl | hl
    · refine (Pass_blk_yes p b cap pre post q cur free now h (by omega) hq hl).conseq (Ent.of (sep_comm _ _)) fun _ _ => ⟨(some (ad b pre.length), fst q now), trivial, rfl, fin _ rfl⟩
    · have hn : fst q now = q.length := by omega
      refine (Pass_blk_no p b cap pre post q cur free now h (by omega) hq hn).conseq (Ent.of (sep_comm _ _)) fun _ _ => ⟨(some (ad b pre.length), q.length), trivial, by rw [hn], fin _ hn⟩

end Go.Proofs.Ytpnpdliimidoaaa
