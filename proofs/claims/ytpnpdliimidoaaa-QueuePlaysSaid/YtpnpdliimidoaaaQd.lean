/- What all calls make of a wire (package pitotlaw19): contracts of its right, bytes, awake and gone, and what is true of all that goes; they are used by the texts that import this one. -/
import Derived.Test.YtpnpdliimidoaaaQc
import Derived.Test.YtpnpdliimidoaaaH
namespace Go.Proofs.Ytpnpdliimidoaaa
open Go.SLA
set_option maxRecDepth 100000
set_option linter.unusedVariables false
set_option linter.unusedSimpArgs false
attribute [local irreducible] J L K QL Rg FSpec OpV OpX Rd Back
structure OpQ where
  pass : Bool
  now : Int
  high : Bool
  id : Int
  text : ByteArray
def encOpQ (x : OpQ) : List Value := [.bool x.pass, .int .i64 x.now, .bool x.high, .int .i64 x.id, .string x.text]
def okOpQ (x : OpQ) : Prop := (Lit.int .i64 x.now).wf = true ∧ (Lit.int .i64 x.id).wf = true ∧ x.text.size ≤ maxLen
abbrev ksOpQ : List CK := [.bool, .int .i64, .bool, .int .i64, .str]
theorem encOpQ_len (x : OpQ) : (encOpQ x).length = 5 := rfl
theorem decOpQ (cs : List Value) (h : Kinds ksOpQ cs) : ∃ x, cs = encOpQ x ∧ okOpQ x := by
  obtain ⟨hl, hk⟩ := h
  obtain ⟨v0, g0, x0, rfl⟩ := hk 0 _ rfl
  obtain ⟨v1, g1, x1, rfl, w1⟩ := hk 1 _ rfl
  obtain ⟨v2, g2, x2, rfl⟩ := hk 2 _ rfl
  obtain ⟨v3, g3, x3, rfl, w3⟩ := hk 3 _ rfl
  obtain ⟨v4, g4, x4, rfl, w4⟩ := hk 4 _ rfl
  match cs, hl with
  | [c0, c1, c2, c3, c4], _ =>
    simp only [List.getElem?_cons_zero, List.getElem?_cons_succ, Option.some.injEq] at g0 g1 g2 g3 g4
    exact ⟨⟨x0, x1, x2, x3, x4⟩, by simp only [encOpQ, *], ⟨w1, w3, w4⟩⟩

/-! ### What is true of all that begins -/

def opAt (xs : List OpQ) (i : Int) : OpQ := (xs[i.toNat]?).getD ⟨false, 0, false, 0, ByteArray.empty⟩
theorem opAt_some {xs : List OpQ} {k : Nat} {x : OpQ} (h : xs[k]? = some x) : opAt xs (k : Int) = x := by unfold opAt; rw [Int.toNat_natCast, h]; rfl
def RT (xs : List OpQ) (a c : Sn) : Prop := a.e ≤ c.b ∧ ((opAt xs a.id).high = (opAt xs c.id).high → a.id < c.id) ∧ ((opAt xs c.id).high = true → (opAt xs a.id).high = false → a.b ≤ (opAt xs c.id).now)
def RW (xs : List OpQ) (a : Sn) (w : Wt) : Prop := ((opAt xs a.id).high = (opAt xs w.id).high → a.id < w.id) ∧ ((opAt xs w.id).high = true → (opAt xs a.id).high = false → a.b ≤ (opAt xs w.id).now)
structure OkS (xs : List OpQ) (k : Nat) (a : Sn) : Prop where
  i0 : 0 ≤ a.id
  ik : a.id < k
  tx : a.tx = (opAt xs a.id).text
  en : a.e = a.b + ((a.tx.size : Int) + 20)
  nw : (opAt xs a.id).now ≤ a.b
structure OkW (xs : List OpQ) (k : Nat) (d : Bool) (w : Wt) : Prop where
  i0 : 0 ≤ w.id
  ik : w.id < k
  tx : w.tx = (opAt xs w.id).text
  kd : (opAt xs w.id).high = d
def BusyL (xs : List OpQ) (T : List Sn) : Prop := ∀ (i : Nat) (a : Sn), T[i]? = some a → a.b = (opAt xs a.id).now ∨ ∃ r, 0 < i ∧ T[i - 1]? = some r ∧ a.b = r.e
structure InvT (xs : List OpQ) (k : Nat) (now : Int) (T : List Sn) (h l : List Wt) : Prop where
  ok : ∀ a ∈ T, OkS xs k a
  pw : T.Pairwise (RT xs)
  bl : BusyL xs T
  hk : ∀ w ∈ h, OkW xs k true w
  lk : ∀ w ∈ l, OkW xs k false w
  hp : h.Pairwise (fun a c => a.id < c.id)
  lp : l.Pairwise (fun a c => a.id < c.id)
  rh : ∀ a ∈ T, ∀ w ∈ h, RW xs a w
  rl : ∀ a ∈ T, ∀ w ∈ l, RW xs a w
  le : ∀ a ∈ T, a.b ≤ now
  bd : ∀ a ∈ T, 0 ≤ a.b ∧ a.e ≤ 281474976710656 + 1538 * T.length
theorem InvT.later {xs : List OpQ} {k : Nat} {now now' : Int} {T : List Sn} {h l : List Wt} (i : InvT xs k now T h l) (hn : now ≤ now') : InvT xs k now' T h l :=
  { i with le := fun a ha => Int.le_trans (i.le a ha) hn }
theorem InvT.more {xs : List OpQ} {k : Nat} {now : Int} {T : List Sn} {h l : List Wt} (i : InvT xs k now T h l) : InvT xs (k + 1) now T h l :=
  { i with ok := fun a ha => { i.ok a ha with ik := by have := (i.ok a ha).ik; omega }, hk := fun a ha => { i.hk a ha with ik := by have := (i.hk a ha).ik; omega }, lk := fun a ha => { i.lk a ha with ik := by have := (i.lk a ha).ik; omega } }
/-- One more begins. -/
theorem InvT.begins {xs : List OpQ} {k : Nat} {now t : Int} {T : List Sn} {h l : List Wt} {x : Wt} {d : Bool} (ok : ∀ a ∈ T, OkS xs k a) (pw : T.Pairwise (RT xs)) (bl : BusyL xs T) (le : ∀ a ∈ T, a.b ≤ now) (bd : ∀ a ∈ T, 0 ≤ a.b ∧ a.e ≤ 281474976710656 + 1538 * T.length)
    (hk : ∀ w ∈ h, OkW xs k true w) (lk : ∀ w ∈ l, OkW xs k false w) (hp : h.Pairwise (fun a c => a.id < c.id)) (lp : l.Pairwise (fun a c => a.id < c.id)) (rh : ∀ a ∈ T, ∀ w ∈ h, RW xs a w) (rl : ∀ a ∈ T, ∀ w ∈ l, RW xs a w)
    (hx : OkW xs k d x) (rx : ∀ a ∈ T, RW xs a x) (xh : ∀ w ∈ h, RW xs (goes x t) w) (xl : ∀ w ∈ l, RW xs (goes x t) w)
    (he : ∀ a ∈ T, a.e ≤ t) (hn : (opAt xs x.id).now ≤ t) (ht : t ≤ now) (h0 : 0 ≤ t) (hb : t = (opAt xs x.id).now ∨ ∃ r, T.getLast? = some r ∧ t = r.e) (hbd : t ≤ 281474976710656 + 1538 * T.length) (hsz : (x.tx.size : Int) ≤ 1518) : InvT xs k now (T ++ [goes x t]) h l := by
  have mem : ∀ a, a ∈ T ++ [goes x t] → a ∈ T ∨ a = goes x t := fun a ha => by
    rcases List.mem_append.1 ha with ha | ha
    · exact .inl ha
    · exact .inr (List.mem_singleton.1 ha)
  refine ⟨fun a ha => ?_, ?_, fun i a ha => ?_, hk, lk, hp, lp, fun a ha => ?_, fun a ha => ?_, fun a ha => ?_, fun a ha => ?_⟩
  · rcases mem a ha with ha | rfl
    · exact ok a ha
    · exact ⟨hx.i0, hx.ik, hx.tx, rfl, hn⟩
  · refine List.pairwise_append.2 ⟨pw, List.pairwise_singleton _ _, fun a ha c hc => ?_⟩
    obtain rfl := List.mem_singleton.1 hc
    exact ⟨he a ha, (rx a ha).1, (rx a ha).2⟩
  · rcases Nat.lt_or_ge i T.length with hi | hi
    · rw [List.getElem?_append_left hi] at ha
      rcases bl i a ha with h | ⟨r, h1, h2, h3⟩
      · exact .inl h
      · exact .inr ⟨r, h1, by rw [List.getElem?_append_left (by omega)]; exact h2, h3⟩
    · rw [List.getElem?_append_right hi] at ha
      have hi' : i = T.length := by
        rcases Nat.lt_or_ge (i - T.length) 1 with h | h
        · omega
        · rw [List.getElem?_eq_none (by simpa using h)] at ha; cases ha
      subst hi'
      rw [Nat.sub_self] at ha
      simp only [List.getElem?_cons_zero, Option.some.injEq] at ha
      subst ha
      rcases hb with h | ⟨r, h1, h2⟩
      · exact .inl h
      · right
        have hne : T ≠ [] := by rintro rfl; cases h1
        have hpos := List.length_pos_iff.2 hne
        refine ⟨r, hpos, ?_, h2⟩
        rw [List.getElem?_append_left (by omega), ← List.getLast?_eq_getElem?, h1]
  · rcases mem a ha with ha | rfl
    · exact rh a ha
    · exact xh
  · rcases mem a ha with ha | rfl
    · exact rl a ha
    · exact xl
  · rcases mem a ha with ha | rfl
    · exact le a ha
    · exact ht
  · rw [List.length_append]
    rcases mem a ha with ha | rfl
    · have := bd a ha
      simp only [List.length_cons, List.length_nil]
      omega
    · simp only [List.length_cons, List.length_nil, goes]
      omega
theorem InvT.start_h {xs : List OpQ} {k : Nat} {now t : Int} {T : List Sn} {h l : List Wt} {x : Wt} (i : InvT xs k now T (x :: h) l) (he : ∀ a ∈ T, a.e ≤ t) (hn : (opAt xs x.id).now ≤ t) (ht : t ≤ now) (h0 : 0 ≤ t) (hb : t = (opAt xs x.id).now ∨ ∃ r, T.getLast? = some r ∧ t = r.e) (hbd : t ≤ 281474976710656 + 1538 * T.length) (hsz : (x.tx.size : Int) ≤ 1518) : InvT xs k now (T ++ [goes x t]) h l := by
  have hx := i.hk x (List.mem_cons_self ..)
  have hp := List.pairwise_cons.1 i.hp
  refine InvT.begins (d := true) i.ok i.pw i.bl i.le i.bd (fun w hw => i.hk w (List.mem_cons_of_mem _ hw)) i.lk hp.2 i.lp (fun a ha w hw => i.rh a ha w (List.mem_cons_of_mem _ hw)) i.rl hx (fun a ha => i.rh a ha x (List.mem_cons_self ..)) (fun w hw => ?_) (fun w hw => ?_) he hn ht h0 hb hbd hsz
  · exact ⟨fun _ => hp.1 w hw, fun _ h => by rw [show (opAt xs (goes x t).id).high = true from hx.kd] at h; cases h⟩
  · have hw := i.lk w hw
    exact ⟨fun h => (by rw [show (opAt xs (goes x t).id).high = true from hx.kd, hw.kd] at h; cases h), fun h => (by rw [hw.kd] at h; cases h)⟩
theorem InvT.start_l {xs : List OpQ} {k : Nat} {now t : Int} {T : List Sn} {l : List Wt} {x : Wt} (i : InvT xs k now T [] (x :: l)) (he : ∀ a ∈ T, a.e ≤ t) (hn : (opAt xs x.id).now ≤ t) (ht : t ≤ now) (h0 : 0 ≤ t) (hb : t = (opAt xs x.id).now ∨ ∃ r, T.getLast? = some r ∧ t = r.e) (hbd : t ≤ 281474976710656 + 1538 * T.length) (hsz : (x.tx.size : Int) ≤ 1518) : InvT xs k now (T ++ [goes x t]) [] l := by
  have hx := i.lk x (List.mem_cons_self ..)
  have hp := List.pairwise_cons.1 i.lp
  refine InvT.begins (d := false) i.ok i.pw i.bl i.le i.bd i.hk (fun w hw => i.lk w (List.mem_cons_of_mem _ hw)) i.hp hp.2 i.rh (fun a ha w hw => i.rl a ha w (List.mem_cons_of_mem _ hw)) hx (fun a ha => i.rl a ha x (List.mem_cons_self ..)) (fun w hw => by cases hw) (fun w hw => ?_) he hn ht h0 hb hbd hsz
  have hw' := i.lk w (List.mem_cons_of_mem _ hw)
  exact ⟨fun _ => hp.1 w hw, fun h => by rw [hw'.kd] at h; cases h⟩
theorem InvT.wait_h {xs : List OpQ} {k : Nat} {T : List Sn} {h l : List Wt} {x : OpQ} (hx : xs[k]? = some x) (hi : x.high = true) (i : InvT xs k x.now T h l) : InvT xs (k + 1) x.now T (h ++ [⟨k, x.text⟩]) l := by
  have hop := opAt_some hx
  have mem : ∀ w, w ∈ h ++ [(⟨k, x.text⟩ : Wt)] → w ∈ h ∨ w = ⟨k, x.text⟩ := fun a ha => by
    rcases List.mem_append.1 ha with ha | ha
    · exact .inl ha
    · exact .inr (List.mem_singleton.1 ha)
  refine { i.more with hk := fun w hw => ?_, hp := ?_, rh := fun a ha w hw => ?_ }
  · rcases mem w hw with hw | rfl
    · exact i.more.hk w hw
    · exact ⟨by dsimp only; omega, by dsimp only; omega, by rw [hop], by rw [hop]; exact hi⟩
  · refine List.pairwise_append.2 ⟨i.hp, List.pairwise_singleton _ _, fun a ha c hc => ?_⟩
    obtain rfl := List.mem_singleton.1 hc
    exact (i.hk a ha).ik
  · rcases mem w hw with hw | rfl
    · exact i.rh a ha w hw
    · exact ⟨fun _ => (i.ok a ha).ik, fun _ _ => by rw [hop]; exact i.le a ha⟩
theorem InvT.wait_l {xs : List OpQ} {k : Nat} {T : List Sn} {h l : List Wt} {x : OpQ} (hx : xs[k]? = some x) (hi : x.high = false) (i : InvT xs k x.now T h l) : InvT xs (k + 1) x.now T h (l ++ [⟨k, x.text⟩]) := by
  have hop := opAt_some hx
  have mem : ∀ w, w ∈ l ++ [(⟨k, x.text⟩ : Wt)] → w ∈ l ∨ w = ⟨k, x.text⟩ := fun a ha => by
    rcases List.mem_append.1 ha with ha | ha
    · exact .inl ha
    · exact .inr (List.mem_singleton.1 ha)
  refine { i.more with lk := fun w hw => ?_, lp := ?_, rl := fun a ha w hw => ?_ }
  · rcases mem w hw with hw | rfl
    · exact i.more.lk w hw
    · exact ⟨by dsimp only; omega, by dsimp only; omega, by rw [hop], by rw [hop]; exact hi⟩
  · refine List.pairwise_append.2 ⟨i.lp, List.pairwise_singleton _ _, fun a ha c hc => ?_⟩
    obtain rfl := List.mem_singleton.1 hc
    exact (i.lk a ha).ik
  · rcases mem w hw with hw | rfl
    · exact i.rl a ha w hw
    · exact ⟨fun _ => (i.ok a ha).ik, fun _ _ => by rw [hop]; exact i.le a ha⟩
/-- All that has begun: what has gone (also what was answered), and what is going. -/
def QS.stt (s : QS) (A : List Sn) : List Sn := A ++ s.out ++ (if s.b = true then [s.go] else [])
structure InvQ (xs : List OpQ) (k : Nat) (now : Int) (s : QS) (A : List Sn) : Prop where
  t : InvT xs k now (s.stt A) s.h s.l
  idle : s.b = false → s.h = [] ∧ s.l = []
  ge : ∀ w, w ∈ s.h ∨ w ∈ s.l → (opAt xs w.id).now ≤ s.go.e
  sz : ∀ w, w ∈ s.h ∨ w ∈ s.l → (w.tx.size : Int) ≤ 1518
  ends : ∀ a ∈ A ++ s.out, a.e ≤ now
theorem InvQ.later {xs : List OpQ} {k : Nat} {now now' : Int} {s : QS} {A : List Sn} (i : InvQ xs k now s A) (hn : now ≤ now') : InvQ xs k now' s A :=
  { i with t := i.t.later hn, ends := fun a ha => Int.le_trans (i.ends a ha) hn }
theorem InvQ.step {xs : List OpQ} {k : Nat} {now : Int} {s : QS} {A : List Sn} (i : InvQ xs k now s A) (hb : s.b = true) (he : s.go.e ≤ now) : InvQ xs k now s.step A := by
  obtain ⟨h, l, b, go, out⟩ := s
  dsimp only at hb he
  subst hb
  obtain ⟨t, _, ge, sz, ends⟩ := i
  have hT : QS.stt ⟨h, l, true, go, out⟩ A = A ++ out ++ [go] := by unfold QS.stt; rw [if_pos rfl]
  rw [hT] at t
  dsimp only at t ge ends sz
  have hgo : go ∈ A ++ out ++ [go] := List.mem_append_right _ (List.mem_singleton.2 rfl)
  have hen := (t.ok go hgo).en
  have hbd := t.bd go hgo
  have hlast : (A ++ out ++ [go]).getLast? = some go := by simp
  have hall : ∀ a ∈ A ++ out ++ [go], a.e ≤ go.e := fun a ha => by
    rcases List.mem_append.1 ha with ha | ha
    · have := ((List.pairwise_append.1 t.pw).2.2 a ha go (List.mem_singleton.2 rfl)).1
      omega
    · rw [List.mem_singleton.1 ha]; exact Int.le_refl _
  have hends : ∀ a ∈ A ++ (out ++ [go]), a.e ≤ now := fun a ha => by
    rw [← List.append_assoc] at ha
    exact Int.le_trans (hall a ha) he
  cases h with
  | cons x h =>
    have hx := ge x (.inl (List.mem_cons_self ..))
    have e : QS.step ⟨x :: h, l, true, go, out⟩ = ⟨h, l, true, goes x go.e, out ++ [go]⟩ := rfl
    rw [e]
    refine ⟨?_, fun h => (by cases h), fun w hw => ?_, fun w hw => sz w (hw.imp_left (List.mem_cons_of_mem _)), hends⟩
    · have := t.start_h (t := go.e) hall hx he (by omega) (.inr ⟨go, hlast, rfl⟩) hbd.2 (sz x (.inl (List.mem_cons_self ..)))
      unfold QS.stt
      rw [if_pos rfl, ← List.append_assoc]
      exact this
    · have := ge w (hw.imp_left (List.mem_cons_of_mem _))
      show _ ≤ go.e + ((x.tx.size : Int) + 20)
      omega
  | nil =>
    cases l with
    | cons x l =>
      have hx := ge x (.inr (List.mem_cons_self ..))
      have e : QS.step ⟨[], x :: l, true, go, out⟩ = ⟨[], l, true, goes x go.e, out ++ [go]⟩ := rfl
      rw [e]
      refine ⟨?_, fun h => (by cases h), fun w hw => ?_, fun w hw => sz w (hw.imp_right (List.mem_cons_of_mem _)), hends⟩
      · have := t.start_l (t := go.e) hall hx he (by omega) (.inr ⟨go, hlast, rfl⟩) hbd.2 (sz x (.inr (List.mem_cons_self ..)))
        unfold QS.stt
        rw [if_pos rfl, ← List.append_assoc]
        exact this
      · have := ge w (hw.imp_right (List.mem_cons_of_mem _))
        show _ ≤ go.e + ((x.tx.size : Int) + 20)
        omega
    | nil =>
      have e : QS.step ⟨[], [], true, go, out⟩ = ⟨[], [], false, go, out ++ [go]⟩ := rfl
      rw [e]
      refine ⟨?_, fun _ => ⟨rfl, rfl⟩, fun w hw => (by rcases hw with hw | hw <;> cases hw), fun w hw => (by rcases hw with hw | hw <;> cases hw), hends⟩
      unfold QS.stt
      rw [if_neg (fun h => by cases h), List.append_nil, ← List.append_assoc]
      exact t
theorem InvQ.run {xs : List OpQ} {k : Nat} {cur now : Int} {s : QS} {A : List Sn} (i : InvQ xs k cur s A) (hn : cur ≤ now) : InvQ xs k now (s.run now) A ∧ ((s.run now).b = true → now < (s.run now).go.e) :=
  QS.run_ind (p := fun s => InvQ xs k now s A) (fun _ hb he hi => hi.step hb he) s (i.later hn)
/-- What was answered is put by. -/
theorem InvQ.answer {xs : List OpQ} {k : Nat} {now : Int} {s : QS} {A : List Sn} (i : InvQ xs k now s A) : InvQ xs k now { s with out := [] } (A ++ s.out) := by
  obtain ⟨t, idle, ge, sz, ends⟩ := i
  refine ⟨?_, idle, ge, sz, ?_⟩
  · unfold QS.stt at t ⊢
    rw [List.append_nil]
    exact t
  · rw [List.append_nil]
    exact ends
theorem InvQ.skip {xs : List OpQ} {k : Nat} {now : Int} {s : QS} {A : List Sn} (i : InvQ xs k now s A) : InvQ xs (k + 1) now s A := { i with t := i.t.more }
/-- What one offer makes of a wire on which as many may wait as like. -/
def QS.add (s : QS) (now : Int) (high : Bool) (w : Wt) : QS :=
  if s.b = false then { s with b := true, go := goes w now } else if high = true then { s with h := s.h ++ [w] } else { s with l := s.l ++ [w] }
theorem InvQ.add {xs : List OpQ} {k : Nat} {s : QS} {A : List Sn} {x : OpQ} (hx : xs[k]? = some x) (h0 : 0 ≤ x.now) (h1 : x.now ≤ 281474976710656) (hsz : (x.text.size : Int) ≤ 1518) (i : InvQ xs k x.now s A) (hlt : s.b = true → x.now < s.go.e) : InvQ xs (k + 1) x.now (s.add x.now x.high ⟨k, x.text⟩) A := by
  have hop := opAt_some hx
  obtain ⟨h, l, b, go, out⟩ := s
  cases b with
  | false =>
    obtain ⟨t, idle, ge, sz, ends⟩ := i
    obtain ⟨e1, e2⟩ := idle rfl
    dsimp only at e1 e2
    subst e1 e2
    have e : QS.add ⟨[], [], false, go, out⟩ x.now x.high ⟨k, x.text⟩ = ⟨[], [], true, goes ⟨k, x.text⟩ x.now, out⟩ := rfl
    rw [e]
    have hT : QS.stt ⟨[], [], false, go, out⟩ A = A ++ out := by unfold QS.stt; rw [if_neg (fun h => by cases h), List.append_nil]
    rw [hT] at t
    have hbd : x.now ≤ 281474976710656 + 1538 * ((A ++ out).length : Int) := by omega
    refine ⟨?_, fun h => (by cases h), fun w hw => (by rcases hw with hw | hw <;> cases hw), fun w hw => (by rcases hw with hw | hw <;> cases hw), ends⟩
    unfold QS.stt
    rw [if_pos rfl]
    dsimp only at t ⊢
    cases hi : x.high with
    | true => exact (t.wait_h hx hi).start_h ends (by rw [hop]; exact Int.le_refl _) (Int.le_refl _) h0 (.inl (by rw [hop])) hbd hsz
    | false => exact (t.wait_l hx hi).start_l ends (by rw [hop]; exact Int.le_refl _) (Int.le_refl _) h0 (.inl (by rw [hop])) hbd hsz
  | true =>
    obtain ⟨t, idle, ge, sz, ends⟩ := i
    have hlt := hlt rfl
    dsimp only at hlt ge sz ends
    have hT : ∀ h' l', QS.stt ⟨h', l', true, go, out⟩ A = QS.stt ⟨h, l, true, go, out⟩ A := fun _ _ => rfl
    cases hi : x.high with
    | true =>
      have e : QS.add ⟨h, l, true, go, out⟩ x.now true ⟨k, x.text⟩ = ⟨h ++ [⟨k, x.text⟩], l, true, go, out⟩ := rfl
      rw [e]
      have mem : ∀ w, w ∈ h ++ [(⟨k, x.text⟩ : Wt)] ∨ w ∈ l → (w ∈ h ∨ w ∈ l) ∨ w = ⟨k, x.text⟩ := fun w hw => by
        rcases hw with hw | hw
        · rcases List.mem_append.1 hw with hw | hw
          · exact .inl (.inl hw)
          · exact .inr (List.mem_singleton.1 hw)
        · exact .inl (.inr hw)
      refine ⟨t.wait_h hx hi, fun h => (by cases h), fun w hw => ?_, fun w hw => ?_, ends⟩
      · rcases mem w hw with hw | rfl
        · exact ge w hw
        · rw [hop]; dsimp only; omega
      · rcases mem w hw with hw | rfl
        · exact sz w hw
        · exact hsz
    | false =>
      have e : QS.add ⟨h, l, true, go, out⟩ x.now false ⟨k, x.text⟩ = ⟨h, l ++ [⟨k, x.text⟩], true, go, out⟩ := rfl
      rw [e]
      have mem : ∀ w, w ∈ h ∨ w ∈ l ++ [(⟨k, x.text⟩ : Wt)] → (w ∈ h ∨ w ∈ l) ∨ w = ⟨k, x.text⟩ := fun w hw => by
        rcases hw with hw | hw
        · exact .inl (.inl hw)
        · rcases List.mem_append.1 hw with hw | hw
          · exact .inl (.inr hw)
          · exact .inr (List.mem_singleton.1 hw)
      refine ⟨t.wait_l hx hi, fun h => (by cases h), fun w hw => ?_, fun w hw => ?_, ends⟩
      · rcases mem w hw with hw | rfl
        · exact ge w hw
        · rw [hop]; dsimp only; omega
      · rcases mem w hw with hw | rfl
        · exact sz w hw
        · exact hsz
theorem InvQ.start (xs : List OpQ) (go : Sn) : InvQ xs 0 0 ⟨[], [], false, go, []⟩ [] :=
  ⟨⟨fun a ha => (by cases ha), List.Pairwise.nil, fun i a ha => (by simp [QS.stt] at ha), fun a ha => (by cases ha), fun a ha => (by cases ha), List.Pairwise.nil, List.Pairwise.nil, fun a ha => (by cases ha), fun a ha => (by cases ha), fun a ha => (by cases ha), fun a ha => (by cases ha)⟩, fun _ => ⟨rfl, rfl⟩, fun w hw => (by rcases hw with hw | hw <;> cases hw), fun w hw => (by rcases hw with hw | hw <;> cases hw), fun a ha => (by cases ha)⟩
/-- How many there are of a wire, in all. -/
def QS.many (s : QS) (A : List Sn) : Nat := (s.stt A).length + s.h.length + s.l.length
theorem QS.many_step (s : QS) (A : List Sn) (hb : s.b = true) : s.step.many A = s.many A := by
  obtain ⟨h, l, b, go, out⟩ := s
  dsimp only at hb
  subst hb
  cases h with
  | cons x h => simp [QS.step, QS.next, QS.many, QS.stt] <;> omega
  | nil =>
    cases l with
    | cons x l => simp [QS.step, QS.next, QS.many, QS.stt] <;> omega
    | nil => simp [QS.step, QS.next, QS.many, QS.stt] <;> omega
theorem QS.many_run (s : QS) (A : List Sn) (now : Int) : (s.run now).many A = s.many A :=
  (QS.run_ind (p := fun t => t.many A = s.many A) (fun t hb _ ht => by rw [QS.many_step t A hb, ht]) s rfl).1
theorem QS.many_add (s : QS) (A : List Sn) (now : Int) (high : Bool) (w : Wt) : (s.add now high w).many A = s.many A + 1 := by
  obtain ⟨h, l, b, go, out⟩ := s
  cases b with
  | false => simp [QS.add, QS.many, QS.stt] <;> omega
  | true =>
    cases high with
    | true => simp [QS.add, QS.many, QS.stt] <;> omega
    | false => simp [QS.add, QS.many, QS.stt] <;> omega
theorem QS.many_answer (s : QS) (A : List Sn) : QS.many { s with out := [] } (A ++ s.out) = s.many A := by
  obtain ⟨h, l, b, go, out⟩ := s
  simp [QS.many, QS.stt]
/-- What is true of all that goes. -/
structure FinQ (xs : List OpQ) (T : List Sn) : Prop where
  ok : ∀ a ∈ T, OkS xs xs.length a
  pw : T.Pairwise (RT xs)
  bl : BusyL xs T
  bd : ∀ a ∈ T, 0 ≤ a.b ∧ a.e ≤ 281474976710656 + 1538 * T.length
theorem InvQ.fin {xs : List OpQ} {now : Int} {s : QS} {A : List Sn} (i : InvQ xs xs.length now s A) (hb : s.b = false) : FinQ xs (A ++ s.out) ∧ s.many A = (A ++ s.out).length := by
  obtain ⟨t, idle, _, _, _⟩ := i
  obtain ⟨e1, e2⟩ := idle hb
  have hT : s.stt A = A ++ s.out := by unfold QS.stt; rw [if_neg (by rw [hb]; exact fun h => by cases h), List.append_nil]
  rw [hT] at t
  refine ⟨⟨t.ok, t.pw, t.bl, t.bd⟩, ?_⟩
  unfold QS.many
  rw [hT, e1, e2]
  rfl


/-- Are calls' ticks rising from 'last' on, none above a quarter of MaxTime, and texts not too great? -/
def okAllQ : Int → List OpQ → Bool
  | _, [] => true
  | last, x :: l => decide (¬ x.now < last ∧ ¬ 281474976710656 < x.now ∧ ¬ 1518 < (x.text.size : Int)) && okAllQ x.now l
def rightQ (xs : List OpQ) : Bool := okAllQ 0 xs && decide ((xs.length : Int) ≤ 100)
theorem okAllQ_drop {last : Int} {xs : List OpQ} {k : Nat} {x : OpQ} (hx : xs[k]? = some x) : okAllQ last (xs.drop k) = (decide (¬ x.now < last ∧ ¬ 281474976710656 < x.now ∧ ¬ 1518 < (x.text.size : Int)) && okAllQ x.now (xs.drop (k + 1))) := by
  have hk := get_lt hx
  rw [List.drop_eq_getElem_cons hk]
  rw [List.getElem?_eq_getElem hk] at hx
  simp only [Option.some.injEq] at hx
  rw [hx]
  rfl

theorem right19_spec (R0 : HProp) (A : Option Addr) (c : Nat) (xs : List OpQ) (hR : RdS R0 encOpQ 5 A xs) (hn : xs.length ≤ 9223372036854775807) : FSpec Try.prog 27 #[.slice A xs.length c] (R0) (fun _ : Unit => True) (fun _ => .bool (rightQ xs)) (fun _ => R0) := by
  refine FSpec.enter' Try.func27 rfl Try.ntmps27 rfl fun σ F => ?_
  refine J_seq ?_
  refine J_region ?_
  refine L_v (opv_assign rfl) rfl ?_
  refine L_nil ?_
  refine K_then ?_
  refine J_seq ?_
  refine J_region ?_
  refine L_v (opv_assign rfl) rfl ?_
  refine L_nil ?_
  refine K_then ?_
  refine J_seq ?_
  refine J_seq ?_
  refine J_region ?_
  refine L_v (opv_assign rfl) rfl ?_
  refine L_nil ?_
  refine K_then ?_
  refine J_block ?_
  refine J_loop (X := Nat × Int) (fun y => [(0, .slice A xs.length c), (3, .int .i64 y.2), (4, .int .i64 y.1)]) (fun y => (sep (R0) (F))) (fun y => y.1 ≤ xs.length ∧ okAllQ 0 xs = okAllQ y.2 (xs.drop y.1)) (fun y => xs.length - y.1) ((0, 0)) ⟨Nat.zero_le _, rfl⟩ ⟨rfl, rfl, rfl, trivial⟩ (Ent.refl _) (fun y hy => ?_)
  obtain ⟨k, last⟩ := y
  obtain ⟨hk, hy⟩ := hy
  dsimp only at hk hy
  refine J_seq ?_
  refine J_seq ?_
  refine J_region ?_
  refine L_v (opv_move rfl) rfl ?_
  refine L_v (opv_move rfl) rfl ?_
  first
    | refine L_v (opv_lenL rfl) rfl ?_
    | refine L_v (opv_lenS rfl) rfl ?_
  refine L_v (opv_lss rfl rfl) rfl ?_
  refine L_nil ?_
  refine K_then ?_
  refine J_cond rfl (fun h1 => ?_) (fun h1 => ?_)
  · have hkl : k < xs.length := by omega
    obtain ⟨x, hx⟩ : ∃ x, xs[k]? = some x := ⟨_, List.getElem?_eq_getElem hkl⟩
    obtain ⟨b, o, rfl⟩ := hR.nonnil k hkl
    refine J_skip ?_
    refine K_then ?_
    refine J_seq ?_
    refine J_block ?_
    refine J_seq ?_
    refine J_seq ?_
    refine J_region ?_
    refine L_v (opv_move rfl) rfl ?_
    refine L_v (opv_move rfl) rfl ?_
    first
      | refine L_v (opv_indexAddr rfl rfl (by omega)) rfl ?_
      | refine L_v (opv_indexAddrA rfl rfl (by omega)) rfl ?_
    first
      | refine L_v (opv_fieldAddr0 rfl) rfl ?_
      | refine L_v (opv_fieldAddr rfl) rfl ?_
    refine L_v (opv_load rfl (Rd.of_take (S := R0) (hR.rd b o rfl k x 1 _ hx rfl))) rfl ?_
    refine L_v (opv_move rfl) rfl ?_
    refine L_v (opv_lss rfl rfl) rfl ?_
    refine L_v (opv_move rfl) rfl ?_
    refine L_gf rfl rfl (fun h2 => ?_) (fun h2 => ?_) (fun _ h => by cases h; rfl)
    · refine L_v (opv_move rfl) rfl ?_
      refine L_gf_on h2 rfl rfl ?_
      refine L_v (opv_move rfl) rfl ?_
      refine L_gf_on h2 rfl rfl ?_
      first
        | refine L_v (opv_indexAddr rfl rfl (by omega)) rfl ?_
        | refine L_v (opv_indexAddrA rfl rfl (by omega)) rfl ?_
      refine L_gf_on h2 rfl rfl ?_
      first
        | refine L_v (opv_fieldAddr0 rfl) rfl ?_
        | refine L_v (opv_fieldAddr rfl) rfl ?_
      refine L_gf_on h2 rfl rfl ?_
      refine L_v (opv_load rfl (Rd.of_take (S := R0) (hR.rd b o rfl k x 1 _ hx rfl))) rfl ?_
      refine L_gf_on h2 rfl rfl ?_
      refine L_v (opv_gtr rfl rfl) rfl ?_
      refine L_v (opv_pick_f rfl h2 rfl) rfl ?_
      refine L_v (opv_move rfl) rfl ?_
      refine L_gf rfl rfl (fun h3 => ?_) (fun h3 => ?_) (fun _ h => by cases h; rfl)
      · refine L_v (opv_move rfl) rfl ?_
        refine L_gf_on h3 rfl rfl ?_
        refine L_v (opv_move rfl) rfl ?_
        refine L_gf_on h3 rfl rfl ?_
        first
          | refine L_v (opv_indexAddr rfl rfl (by omega)) rfl ?_
          | refine L_v (opv_indexAddrA rfl rfl (by omega)) rfl ?_
        refine L_gf_on h3 rfl rfl ?_
        first
          | refine L_v (opv_fieldAddr0 rfl) rfl ?_
          | refine L_v (opv_fieldAddr rfl) rfl ?_
        refine L_gf_on h3 rfl rfl ?_
        refine L_v (opv_load rfl (Rd.of_take (S := R0) (hR.rd b o rfl k x 4 _ hx rfl))) rfl ?_
        refine L_gf_on h3 rfl rfl ?_
        first
          | refine L_v (opv_lenL rfl) rfl ?_
          | refine L_v (opv_lenS rfl) rfl ?_
        refine L_gf_on h3 rfl rfl ?_
        refine L_v (opv_gtr rfl rfl) rfl ?_
        refine L_v (opv_pick_f rfl h3 rfl) rfl ?_
        refine L_nil ?_
        refine K_then ?_
        refine J_cond rfl (fun h4 => ?_) (fun h4 => ?_)
        · refine J_seq ?_
          refine J_region ?_
          refine L_v (opv_assign rfl) rfl ?_
          refine L_nil ?_
          refine K_then ?_
          refine J_ret ?_
          refine K_then_ret ?_
          refine K_block_ret ?_
          refine K_then_ret ?_
          refine K_then_ret ?_
          refine K_block_ret ?_
          refine K_then_ret ?_
          exact K_ret1 rfl rfl () trivial (by rw [rightQ, hy, okAllQ_drop hx, decide_eq_false (by omega), Bool.false_and, Bool.false_and]) (Ent.refl _)
        · refine J_skip ?_
          refine K_then ?_
          refine J_region ?_
          refine L_v (opv_move rfl) rfl ?_
          refine L_v (opv_move rfl) rfl ?_
          first
            | refine L_v (opv_indexAddr rfl rfl (by omega)) rfl ?_
            | refine L_v (opv_indexAddrA rfl rfl (by omega)) rfl ?_
          first
            | refine L_v (opv_fieldAddr0 rfl) rfl ?_
            | refine L_v (opv_fieldAddr rfl) rfl ?_
          refine L_v (opv_load rfl (Rd.of_take (S := R0) (hR.rd b o rfl k x 1 _ hx rfl))) rfl ?_
          refine L_v (opv_assign rfl) rfl ?_
          refine L_nil ?_
          refine K_block ?_
          refine K_then ?_
          refine J_region ?_
          refine L_v (opv_move rfl) rfl ?_
          first
            | refine L_v (opv_add64 rfl rfl (by omega)) rfl ?_
            | refine L_v (opv_addS rfl rfl (by omega)) rfl ?_
            | refine L_v (opv_add rfl rfl) rfl ?_
          refine L_v (opv_assign rfl) rfl ?_
          refine L_nil ?_
          exact K_loop ((k + 1, x.now)) ⟨by omega, by rw [hy, okAllQ_drop hx, decide_eq_true ⟨by omega, by omega, by omega⟩, Bool.true_and]⟩ (by dsimp only; omega) ⟨rfl, rfl, rfl, trivial⟩ (Ent.refl _)
      · refine L_gf_off h3 rfl rfl ?_ (fun _ h => by cases h; rfl)
        refine L_gf_off h3 rfl rfl ?_ (fun _ h => by cases h; rfl)
        refine L_gf_off h3 rfl rfl ?_ (fun _ h => by cases h; rfl)
        refine L_gf_off h3 rfl rfl ?_ (fun _ h => by cases h; rfl)
        refine L_gf_off h3 rfl rfl ?_ (fun _ h => by cases h; rfl)
        refine L_gf_off h3 rfl rfl ?_ (fun _ h => by cases h; rfl)
        refine L_v (opv_pick_t rfl h3 rfl) rfl ?_
        refine L_nil ?_
        refine K_then ?_
        refine J_cond_true rfl ?_
        refine J_seq ?_
        refine J_region ?_
        refine L_v (opv_assign rfl) rfl ?_
        refine L_nil ?_
        refine K_then ?_
        refine J_ret ?_
        refine K_then_ret ?_
        refine K_block_ret ?_
        refine K_then_ret ?_
        refine K_then_ret ?_
        refine K_block_ret ?_
        refine K_then_ret ?_
        exact K_ret1 rfl rfl () trivial (by rw [rightQ, hy, okAllQ_drop hx, decide_eq_false (by omega), Bool.false_and, Bool.false_and]) (Ent.refl _)
    · refine L_gf_off h2 rfl rfl ?_ (fun _ h => by cases h; rfl)
      refine L_gf_off h2 rfl rfl ?_ (fun _ h => by cases h; rfl)
      refine L_gf_off h2 rfl rfl ?_ (fun _ h => by cases h; rfl)
      refine L_gf_off h2 rfl rfl ?_ (fun _ h => by cases h; rfl)
      refine L_gf_off h2 rfl rfl ?_ (fun _ h => by cases h; rfl)
      refine L_v (opv_pick_t rfl h2 rfl) rfl ?_
      refine L_v (opv_move rfl) rfl ?_
      refine L_gskip rfl rfl rfl ?_ (fun _ h => by cases h; rfl)
      refine L_gskip rfl rfl rfl ?_ (fun _ h => by cases h; rfl)
      refine L_gskip rfl rfl rfl ?_ (fun _ h => by cases h; rfl)
      refine L_gskip rfl rfl rfl ?_ (fun _ h => by cases h; rfl)
      refine L_gskip rfl rfl rfl ?_ (fun _ h => by cases h; rfl)
      refine L_gskip rfl rfl rfl ?_ (fun _ h => by cases h; rfl)
      refine L_gskip rfl rfl rfl ?_ (fun _ h => by cases h; rfl)
      first
        | refine L_v (opv_pick_tt rfl rfl) rfl ?_
        | refine L_v (opv_pick_ff rfl rfl) rfl ?_
        | refine L_v (opv_pick rfl rfl rfl) rfl ?_
      refine L_nil ?_
      refine K_then ?_
      refine J_cond_true rfl ?_
      refine J_seq ?_
      refine J_region ?_
      refine L_v (opv_assign rfl) rfl ?_
      refine L_nil ?_
      refine K_then ?_
      refine J_ret ?_
      refine K_then_ret ?_
      refine K_block_ret ?_
      refine K_then_ret ?_
      refine K_then_ret ?_
      refine K_block_ret ?_
      refine K_then_ret ?_
      exact K_ret1 rfl rfl () trivial (by rw [rightQ, hy, okAllQ_drop hx, decide_eq_false (by omega), Bool.false_and, Bool.false_and]) (Ent.refl _)
  · refine J_exit ?_
    refine K_then_exit ?_
    refine K_then_exit ?_
    refine K_block_here ?_
    refine K_then ?_
    refine J_seq ?_
    refine J_region ?_
    refine L_v (opv_move rfl) rfl ?_
    first
      | refine L_v (opv_lenL rfl) rfl ?_
      | refine L_v (opv_lenS rfl) rfl ?_
    refine L_v (opv_leq rfl rfl) rfl ?_
    refine L_v (opv_assign rfl) rfl ?_
    refine L_nil ?_
    refine K_then ?_
    refine J_ret ?_
    have he : k = xs.length := by omega
    exact K_ret1 rfl rfl () trivial (by rw [rightQ, hy, he, List.drop_length]; rfl) (Ent.refl _)

theorem bytes19_spec (n : Nat) (hn : n ≤ 1000000) : FSpec Try.prog 45 #[.int .i64 n] (emp) (fun _ : Unit => True) (fun _ => .string (xs n)) (fun _ => emp) := by
  refine FSpec.enter' Try.func45 rfl Try.ntmps45 rfl fun σ F => ?_
  refine J_seq ?_
  refine J_region ?_
  refine L_v (opv_assign rfl) rfl ?_
  refine L_nil ?_
  refine K_then ?_
  refine J_seq ?_
  refine J_region ?_
  refine L_v (opv_assign rfl) rfl ?_
  refine L_nil ?_
  refine K_then ?_
  refine J_seq ?_
  refine J_block ?_
  refine J_loop (X := Nat) (fun k => [(0, .int .i64 n), (3, .string (xs k))]) (fun k => (sep (emp) (F))) (fun k => k ≤ n) (fun k => n - k) (0) (Nat.zero_le _) ⟨rfl, rfl, trivial⟩ (Ent.refl _) (fun k hk => ?_)
  have hs := xs_size k
  refine J_seq ?_
  refine J_seq ?_
  refine J_region ?_
  refine L_v (opv_move rfl) rfl ?_
  first
    | refine L_v (opv_lenL rfl) rfl ?_
    | refine L_v (opv_lenS rfl) rfl ?_
  refine L_v (opv_move rfl) rfl ?_
  refine L_v (opv_lss rfl rfl) rfl ?_
  refine L_nil ?_
  refine K_then ?_
  refine J_cond rfl (fun h1 => ?_) (fun h1 => ?_)
  · refine J_skip ?_
    refine K_then ?_
    refine J_block ?_
    refine J_region ?_
    refine L_v (opv_move rfl) rfl ?_
    refine L_v (opv_addS rfl rfl (by have e : (⟨#[120]⟩ : ByteArray).size = 1 := rfl; omega)) rfl ?_
    refine L_v (opv_assign rfl) rfl ?_
    refine L_nil ?_
    refine K_block ?_
    exact K_loop (k + 1) (by omega) (by omega) ⟨rfl, rfl, trivial⟩ (Ent.refl _)
  · refine J_exit ?_
    refine K_then_exit ?_
    refine K_then_exit ?_
    refine K_block_here ?_
    refine K_then ?_
    refine J_seq ?_
    refine J_region ?_
    refine L_v (opv_move rfl) rfl ?_
    refine L_v (opv_assign rfl) rfl ?_
    refine L_nil ?_
    refine K_then ?_
    refine J_ret ?_
    obtain rfl : k = n := by omega
    exact K_ret1 rfl rfl () trivial (rfl) (Ent.refl _)

end Go.Proofs.Ytpnpdliimidoaaa
