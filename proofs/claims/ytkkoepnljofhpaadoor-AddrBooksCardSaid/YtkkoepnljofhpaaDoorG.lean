/- Slices: cutting, a call's own, append; strings; memory that came in. -/
import Derived.Test.YtkkoepnljofhpaaDoorE
set_option linter.unusedVariables false
set_option linter.unusedSimpArgs false
namespace Go.SLA

variable {prog : Program} {σ : World} {n : Nat} {Q : Exit → Act → World → Prop} {E E' : Env} {P P' R F : HProp} {ops : Array Oper} {rest : List Oper} {Qa : Act → Prop}

/-! ### Case by case -/

theorem J_pre {X : Type} (P' : X → HProp) (φ : X → Prop) (h : ∀ w, Sat σ w P → ∃ x, φ x ∧ Sat σ w (P' x)) {c : Code} (k : ∀ x, φ x → J prog σ n c Q E (P' x)) : J prog σ n c Q E P :=
  fun a w ha hw => let ⟨x, hx, hs⟩ := h w hw; k x hx a w ha hs
theorem L_pre {X : Type} (P' : X → HProp) (φ : X → Prop) (h : ∀ w, Sat σ w P → ∃ x, φ x ∧ Sat σ w (P' x)) (k : ∀ x, φ x → L prog σ n ops rest Q E (P' x)) : L prog σ n ops rest Q E P :=
  fun a w ha hw => let ⟨x, hx, hs⟩ := h w hw; k x hx a w ha hs
theorem K_pre {X : Type} (P' : X → HProp) (φ : X → Prop) (h : ∀ w, Sat σ w P → ∃ x, φ x ∧ Sat σ w (P' x)) {e : Exit} (k : ∀ x, φ x → K σ n Q e E (P' x)) : K σ n Q e E P :=
  fun a w ha hw => let ⟨x, hx, hs⟩ := h w hw; k x hx a w ha hs
theorem Rg_pre {S0 S : HProp} {B : List Nat} {fuel : Nat} {listed : Array Bool} {X : Type} (P' : X → HProp) (φ : X → Prop) (h : ∀ w, Sat σ w P → ∃ x, φ x ∧ Sat σ w (P' x)) (k : ∀ x, φ x → Rg prog σ n ops Q S0 S B fuel listed E (P' x)) : Rg prog σ n ops Q S0 S B fuel listed E P :=
  fun a w ha hw => let ⟨x, hx, hs⟩ := h w hw; k x hx a w ha hs

/-! ### Memory that came in -/

class Old (P : HProp) (w0 : outParam World) (R : outParam HProp) : Prop where
  eq : P = (sep (old w0) (R))
instance (priority := 100) {A P R : HProp} {w0 : World} [h : Old P w0 R] : Old (sep (A) (P)) w0 (sep (A) (R)) := ⟨by rw [h.eq, sep_left_comm]⟩
instance (priority := 150) {A B P R : HProp} {w0 : World} [h : Old (sep (A) (sep (B) (P))) w0 R] : Old (sep ((sep (A) (B))) (P)) w0 R := ⟨by rw [sep_assoc]; exact h.eq⟩
instance (priority := 200) {w0 : World} {R : HProp} : Old (sep (old w0) (R)) w0 R := ⟨rfl⟩
theorem Rd.old {w0 : World} [h : Old P w0 R] {b o : Nat} {v : Value} (hv : w0.cell? (ad b o) = some v) : Rd P b o v := fun σ w hs => by
  rw [h.eq] at hs
  have hb : (ad b o).block < w0.heap.size := block_lt_of_cell hv
  rw [← hv]
  exact World.cell?_of_block (hs.old_block b hb)

/-! ### Cutting -/

section
variable {d : Option Tmp} {ty : TypeId} {pos : String} {aft : Array Edge} {g : Option (Nat × Bool)} {x y z : Operand} {t t' : TypeId} {k k' : IntKind} {a b : Int} {v u : Value} {s r : ByteArray}

/-- A bound that stands, or does not. -/
def evb (E : Env) : Option Operand → Nat → Option Nat
  | none, dflt => some dflt
  | some x, _ => match ev E x with
    | some (.int _ m) => if 0 ≤ m then some m.toNat else none
    | _ => none
theorem run_bound {w : World} {k : IntKind} {m : Int} {y : Nat} {c : BoundsCode} (h : 0 ≤ m ∧ m ≤ y) : (Instr.sliceBound (.int k m) y c).run prog w = .ok m.toNat w := by
  simp only [Instr.sliceBound, asIntOf, Sem.run_bind, Sem.run_pure, Result.andThen_ok, Sem.run_ite]
  rw [if_pos h]
theorem opv_sliceS [Str prog t] {lo hi : Operand} (hx : ev E x = some (.string s)) (hl : ev E lo = some (.int k a)) (hh : ev E hi = some (.int k' b)) (h : 0 ≤ a ∧ a ≤ b ∧ b ≤ s.size) :
    OpV prog σ n E P ⟨d, .slice t x (some lo) (some hi) none, ty, pos, aft, g⟩ (.string (s.extract a.toNat b.toNat)) := fun _ w ha _ => by
  simp only [execOp, ha.ev hx, Option.map_some, Option.map_none, ha.ev hl, ha.ev hh, Instr.sliceAt, Instr.slice, Sem.run_bind, run_und' (Str.spec (prog := prog) t), Result.andThen_ok, Option.isSome_none, Bool.false_eq_true, if_false, Instr.sliceBounds, Sem.run_pure,
    run_bound (prog := prog) (w := w) (k := k') (m := b) (y := s.size) ⟨by omega, by omega⟩, run_bound (prog := prog) (w := w) (k := k) (m := a) (y := b.toNat) ⟨by omega, by omega⟩, Sem.run_ite]
theorem opv_sliceSlo [Str prog t] {lo : Operand} (hx : ev E x = some (.string s)) (hl : ev E lo = some (.int k a)) (h : 0 ≤ a ∧ a ≤ s.size) :
    OpV prog σ n E P ⟨d, .slice t x (some lo) none none, ty, pos, aft, g⟩ (.string (s.extract a.toNat s.size)) := fun _ w ha _ => by
  simp only [execOp, ha.ev hx, Option.map_some, Option.map_none, ha.ev hl, Instr.sliceAt, Instr.slice, Sem.run_bind, run_und' (Str.spec (prog := prog) t), Result.andThen_ok, Option.isSome_none, Bool.false_eq_true, if_false, Instr.sliceBounds, Sem.run_pure,
    run_bound (prog := prog) (w := w) (k := k) (m := a) (y := s.size) ⟨by omega, by omega⟩, Sem.run_ite]
theorem opv_sliceShi [Str prog t] {hi : Operand} (hx : ev E x = some (.string s)) (hh : ev E hi = some (.int k' b)) (h : 0 ≤ b ∧ b ≤ s.size) :
    OpV prog σ n E P ⟨d, .slice t x none (some hi) none, ty, pos, aft, g⟩ (.string (s.extract 0 b.toNat)) := fun _ w ha _ => by
  simp only [execOp, ha.ev hx, Option.map_some, Option.map_none, ha.ev hh, Instr.sliceAt, Instr.slice, Sem.run_bind, run_und' (Str.spec (prog := prog) t), Result.andThen_ok, Option.isSome_none, Bool.false_eq_true, if_false, Instr.sliceBounds, Sem.run_pure,
    run_bound (prog := prog) (w := w) (k := k') (m := b) (y := s.size) ⟨by omega, by omega⟩, Sem.run_ite]

/-- A slice's value behind a cut: from l to h, room to m. -/
def cutV (A : Option Addr) (l h m size : Nat) : Value := .slice (if m = l then A else A.map (·.add (l * size))) (h - l) (m - l)
theorem cutV_at (b o l h m size : Nat) : cutV (some (ad b o)) l h m size = .slice (some (ad b (if m = l then o else o + l * size))) (h - l) (m - l) := by
  unfold cutV
  split
  · rfl
  · simp [ad_add]
theorem opv_sliceL {e m : Nat} {A : Option Addr} {len cap : Nat} {lo hi : Operand} [Slc prog t e m] (hx : ev E x = some (.slice A len cap)) (hl : ev E lo = some (.int k a)) (hh : ev E hi = some (.int k' b)) (h : 0 ≤ a ∧ a ≤ b ∧ b ≤ cap) :
    OpV prog σ n E P ⟨d, .slice t x (some lo) (some hi) none, ty, pos, aft, g⟩ (cutV A a.toNat b.toNat cap m) := fun _ w ha _ => by
  obtain ⟨h1, i, h2, h3⟩ := Slc.spec (prog := prog) t e m
  simp only [execOp, ha.ev hx, Option.map_some, Option.map_none, ha.ev hl, ha.ev hh, Instr.sliceAt, Instr.slice, Sem.run_bind, run_und' h1, Result.andThen_ok, Instr.sliceBounds, Sem.run_pure,
    run_bound (prog := prog) (w := w) (k := k') (m := b) (y := cap) ⟨by omega, by omega⟩, run_bound (prog := prog) (w := w) (k := k) (m := a) (y := b.toNat) ⟨by omega, by omega⟩, run_sizeOf' h2, h3, cutV]
theorem opv_sliceLlo {e m : Nat} {A : Option Addr} {len cap : Nat} {lo : Operand} [Slc prog t e m] (hx : ev E x = some (.slice A len cap)) (hl : ev E lo = some (.int k a)) (h : 0 ≤ a ∧ a ≤ len) :
    OpV prog σ n E P ⟨d, .slice t x (some lo) none none, ty, pos, aft, g⟩ (cutV A a.toNat len cap m) := fun _ w ha _ => by
  obtain ⟨h1, i, h2, h3⟩ := Slc.spec (prog := prog) t e m
  simp only [execOp, ha.ev hx, Option.map_some, Option.map_none, ha.ev hl, Instr.sliceAt, Instr.slice, Sem.run_bind, run_und' h1, Result.andThen_ok, Instr.sliceBounds, Sem.run_pure,
    run_bound (prog := prog) (w := w) (k := k) (m := a) (y := len) ⟨by omega, by omega⟩, run_sizeOf' h2, h3, cutV]
theorem opv_sliceLhi {e m : Nat} {A : Option Addr} {len cap : Nat} {hi : Operand} [Slc prog t e m] (hx : ev E x = some (.slice A len cap)) (hh : ev E hi = some (.int k' b)) (h : 0 ≤ b ∧ b ≤ cap) :
    OpV prog σ n E P ⟨d, .slice t x none (some hi) none, ty, pos, aft, g⟩ (cutV A 0 b.toNat cap m) := fun _ w ha _ => by
  obtain ⟨h1, i, h2, h3⟩ := Slc.spec (prog := prog) t e m
  simp only [execOp, ha.ev hx, Option.map_some, Option.map_none, ha.ev hh, Instr.sliceAt, Instr.slice, Sem.run_bind, run_und' h1, Result.andThen_ok, Instr.sliceBounds, Sem.run_pure,
    run_bound (prog := prog) (w := w) (k := k') (m := b) (y := cap) ⟨by omega, by omega⟩, run_sizeOf' h2, h3, cutV]
theorem opv_sliceLhm {e m : Nat} {A : Option Addr} {len cap : Nat} {hi mx : Operand} {c : Int} {k'' : IntKind} [Slc prog t e m] (hx : ev E x = some (.slice A len cap)) (hh : ev E hi = some (.int k' b)) (hm : ev E mx = some (.int k'' c)) (h : 0 ≤ b ∧ b ≤ c ∧ c ≤ cap) :
    OpV prog σ n E P ⟨d, .slice t x none (some hi) (some mx), ty, pos, aft, g⟩ (cutV A 0 b.toNat c.toNat m) := fun _ w ha _ => by
  obtain ⟨h1, i, h2, h3⟩ := Slc.spec (prog := prog) t e m
  simp only [execOp, ha.ev hx, Option.map_some, Option.map_none, ha.ev hh, ha.ev hm, Instr.sliceAt, Instr.slice, Sem.run_bind, run_und' h1, Result.andThen_ok, Instr.sliceBounds, Sem.run_pure,
    run_bound (prog := prog) (w := w) (k := k'') (m := c) (y := cap) ⟨by omega, by omega⟩, run_bound (prog := prog) (w := w) (k := k') (m := b) (y := c.toNat) ⟨by omega, by omega⟩, run_sizeOf' h2, h3, cutV]
end

/-! ### A slice of a call's own: the whole array is its own -/

inductive Rep where
  | nil
  | at (b cap : Nat) (pre post : List Value)
def ownAt (e m : Nat) (v : Value) (len : Nat) (l : List Value) : Rep → HProp
  | .nil => lift (v = .slice none 0 0 ∧ len = 0 ∧ l = [])
  | .at b cap pre post => (sep (lift (v = .slice (some (ad b pre.length)) len cap ∧ len ≤ cap ∧ cap ≤ maxLen ∧ l.length = len * m ∧ (cap - len) * m ≤ post.length)) (cel b (pre ++ l ++ post) e))
/-- v is a slice of len elements of type e, of m cells each, with cells l; its array is nobody else's. -/
def Own (e m : Nat) (v : Value) (len : Nat) (l : List Value) : HProp := ex (ownAt e m v len l)

theorem sat_own {w : World} {e m len : Nat} {v : Value} {l : List Value} (h : Sat σ w (sep (Own e m v len l) (P))) :
    (v = .slice none 0 0 ∧ len = 0 ∧ l = [] ∧ Sat σ w P) ∨
    ∃ b cap pre post, v = .slice (some (ad b pre.length)) len cap ∧ len ≤ cap ∧ cap ≤ maxLen ∧ l.length = len * m ∧ (cap - len) * m ≤ post.length ∧ Sat σ w (sep (cel b (pre ++ l ++ post) e) (P)) := by
  obtain ⟨r, hr⟩ := sat_ex.1 h
  cases r with
  | nil =>
    obtain ⟨⟨h1, h2, h3⟩, h4⟩ := sat_lift.1 hr
    exact .inl ⟨h1, h2, h3, h4⟩
  | «at» b cap pre post =>
    simp only [ownAt, sep_assoc] at hr
    obtain ⟨⟨h1, h2, h3, h4, h5⟩, h6⟩ := sat_lift.1 hr
    exact .inr ⟨b, cap, pre, post, h1, h2, h3, h4, h5, h6⟩
theorem Own.nil (e m : Nat) : Ent emp (Own e m (.slice none 0 0) 0 []) := Ent.pt fun h hh => ⟨.nil, ⟨rfl, rfl, rfl⟩, hh⟩
theorem Own.mk {e m len b cap : Nat} {v : Value} {l pre post : List Value} (h1 : v = .slice (some (ad b pre.length)) len cap) (h2 : len ≤ cap) (h3 : cap ≤ maxLen) (h4 : l.length = len * m) (h5 : (cap - len) * m ≤ post.length) : Ent (cel b (pre ++ l ++ post) e) (Own e m v len l) :=
  Ent.trans (Ent.lift ⟨h1, h2, h3, h4, h5⟩) (Ent.exo (f := ownAt e m v len l) (.at b cap pre post))
theorem Own.lit {e m len b : Nat} {l : List Value} (h4 : l.length = len * m) (h3 : len ≤ maxLen) : Ent (cel b l e) (Own e m (.slice (some (ad b 0)) len len) len l) := by
  have := Own.mk (e := e) (m := m) (len := len) (b := b) (cap := len) (v := .slice (some (ad b 0)) len len) (l := l) (pre := []) (post := []) rfl (Nat.le_refl _) h3 h4 (by simp)
  simpa using this

theorem J_own {e m len : Nat} {v : Value} {l : List Value} {c : Code} (h0 : v = .slice none 0 0 → len = 0 → l = [] → J prog σ n c Q E P)
    (h1 : ∀ b cap pre post, v = .slice (some (ad b (List.length pre))) len cap → len ≤ cap → cap ≤ maxLen → l.length = len * m → (cap - len) * m ≤ List.length post → J prog σ n c Q E (sep (cel b (pre ++ l ++ post) e) (P))) : J prog σ n c Q E (sep (Own e m v len l) (P)) :=
  fun a w ha hw => by
    rcases sat_own hw with ⟨g1, g2, g3, g4⟩ | ⟨b, cap, pre, post, g1, g2, g3, g4, g5, g6⟩
    · exact h0 g1 g2 g3 a w ha g4
    · exact h1 b cap pre post g1 g2 g3 g4 g5 a w ha g6
theorem L_own {e m len : Nat} {v : Value} {l : List Value} (h0 : v = .slice none 0 0 → len = 0 → l = [] → L prog σ n ops rest Q E P)
    (h1 : ∀ b cap pre post, v = .slice (some (ad b (List.length pre))) len cap → len ≤ cap → cap ≤ maxLen → l.length = len * m → (cap - len) * m ≤ List.length post → L prog σ n ops rest Q E (sep (cel b (pre ++ l ++ post) e) (P))) : L prog σ n ops rest Q E (sep (Own e m v len l) (P)) :=
  fun a w ha hw => by
    rcases sat_own hw with ⟨g1, g2, g3, g4⟩ | ⟨b, cap, pre, post, g1, g2, g3, g4, g5, g6⟩
    · exact h0 g1 g2 g3 a w ha g4
    · exact h1 b cap pre post g1 g2 g3 g4 g5 a w ha g6
theorem FSpec.ex {Y X : Type} {f : FuncId} {args : Array Value} {g : Y → HProp} {φ : X → Prop} {val : X → Value} {Qo : X → HProp} (h : ∀ y, FSpec prog f args (g y) φ val Qo) : FSpec prog f args (SLA.ex g) φ val Qo :=
  fun σ w F hs => let ⟨y, hy⟩ := sat_ex.1 hs; h y σ w F hy
theorem FSpec.exs {Y X : Type} {f : FuncId} {args : Array Value} {g : Y → HProp} {P : HProp} {φ : X → Prop} {val : X → Value} {Qo : X → HProp} (h : ∀ y, FSpec prog f args (sep (g y) (P)) φ val Qo) : FSpec prog f args (sep (SLA.ex g) (P)) φ val Qo :=
  fun σ w F hs => by
    rw [sep_assoc] at hs
    obtain ⟨y, hy⟩ := sat_ex.1 hs
    exact h y σ w F (by rw [sep_assoc]; exact hy)
theorem FSpec.lifts {X : Type} {f : FuncId} {args : Array Value} {p : Prop} {P : HProp} {φ : X → Prop} {val : X → Value} {Qo : X → HProp} (h : p → FSpec prog f args P φ val Qo) : FSpec prog f args (sep (SLA.lift p) (P)) φ val Qo :=
  fun σ w F hs => by
    rw [sep_assoc] at hs
    obtain ⟨hp, hy⟩ := sat_lift.1 hs
    exact h hp σ w F hy
theorem FSpec.own {X : Type} {f : FuncId} {args : Array Value} {e m len : Nat} {v : Value} {l : List Value} {φ : X → Prop} {val : X → Value} {Qo : X → HProp} (h0 : v = .slice none 0 0 → len = 0 → l = [] → FSpec prog f args P φ val Qo)
    (h1 : ∀ b cap pre post, v = .slice (some (ad b (List.length pre))) len cap → len ≤ cap → cap ≤ maxLen → l.length = len * m → (cap - len) * m ≤ List.length post → FSpec prog f args (sep (cel b (pre ++ l ++ post) e) (P)) φ val Qo) : FSpec prog f args (sep (Own e m v len l) (P)) φ val Qo :=
  fun σ w F hs => by
    rw [sep_assoc] at hs
    rcases sat_own hs with ⟨g1, g2, g3, g4⟩ | ⟨b, cap, pre, post, g1, g2, g3, g4, g5, g6⟩
    · exact h0 g1 g2 g3 σ w F g4
    · exact h1 b cap pre post g1 g2 g3 g4 g5 σ w F (by rw [sep_assoc]; exact g6)
theorem FSpec.conseq {X Y : Type} {f : FuncId} {args : Array Value} {P' : HProp} {φ : Y → Prop} {val : Y → Value} {Qo : Y → HProp} {φ' : X → Prop} {val' : X → Value} {Qo' : X → HProp} (h : FSpec prog f args P' φ' val' Qo') (hp : Ent P P')
    (hq : ∀ x, φ' x → ∃ y, φ y ∧ val' x = val y ∧ Ent (Qo' x) (Qo y)) : FSpec prog f args P φ val Qo :=
  fun σ w F hs => (h σ w F (hs.ent (hp.frame F))).mono fun e w' ⟨x, hx, he, hs'⟩ => let ⟨y, hy, hv, hent⟩ := hq x hx; ⟨y, hy, by rw [he, hv], hs'.ent (hent.frame F)⟩
theorem FSpec.eq {X : Type} {f : FuncId} {args : Array Value} (P' : HProp) (e : P = P') {φ : X → Prop} {val : X → Value} {Qo : X → HProp} (h : FSpec prog f args P' φ val Qo) : FSpec prog f args P φ val Qo := e ▸ h
/-- What is known of the value of a slice of one's own. -/
theorem own_val {w : World} {e m len : Nat} {v : Value} {l : List Value} (h : Sat σ w (sep (Own e m v len l) (P))) : ∃ A cap, v = .slice A len cap ∧ len ≤ cap ∧ cap ≤ maxLen ∧ l.length = len * m := by
  rcases sat_own h with ⟨rfl, rfl, rfl, _⟩ | ⟨b, cap, pre, post, rfl, h2, h3, h4, _, _⟩
  · exact ⟨none, 0, rfl, Nat.le_refl _, Nat.zero_le _, by simp⟩
  · exact ⟨_, cap, rfl, h2, h3, h4⟩

theorem mid_get {α : Type} (pre l post : List α) (i : Nat) (h : i < l.length) : (pre ++ l ++ post)[pre.length + i]? = l[i]? := by
  rw [List.append_assoc, List.getElem?_append_right (by omega), show pre.length + i - pre.length = i by omega, List.getElem?_append_left h]

/-- Element i of a list that is laid out element by element. -/
theorem flat_get {α : Type} {enc : α → List Value} {m : Nat} (hm : ∀ x, (enc x).length = m) : ∀ (q : List α) (i j : Nat) (x : α), q[i]? = some x → j < m → (q.flatMap enc)[i * m + j]? = (enc x)[j]?
  | [], i, j, x, h, _ => by simp at h
  | y :: q, 0, j, x, h, hj => by
    simp only [List.getElem?_cons_zero, Option.some.injEq] at h
    subst h
    rw [List.flatMap_cons, Nat.zero_mul, Nat.zero_add, List.getElem?_append_left (by rw [hm]; exact hj)]
  | y :: q, i + 1, j, x, h, hj => by
    rw [List.flatMap_cons, List.getElem?_append_right (by rw [hm, Nat.add_mul]; omega), hm, show (i + 1) * m + j - m = i * m + j by rw [Nat.add_mul]; omega]
    exact flat_get hm q i j x (by simpa using h) hj
theorem flat_len {α : Type} {enc : α → List Value} {m : Nat} (hm : ∀ x, (enc x).length = m) : ∀ (q : List α), (q.flatMap enc).length = q.length * m
  | [] => by simp
  | y :: q => by rw [List.flatMap_cons, List.length_append, hm, flat_len hm q, List.length_cons, Nat.add_mul]; omega
theorem Rd.elem {α : Type} {enc : α → List Value} {m : Nat} (hm : ∀ x, (enc x).length = m) {b : Nat} {pre post : List Value} {q : List α} {t : TypeId} [h : Look P b (pre ++ q.flatMap enc ++ post) t R] {i j : Nat} {x : α} {v : Value} (hx : q[i]? = some x) (hj : (enc x)[j]? = some v) :
    Rd P b (pre.length + i * m + j) v := by
  have hjm : j < m := by
    rcases Nat.lt_or_ge j (enc x).length with h | h
    · rw [← hm x]; exact h
    · rw [List.getElem?_eq_none h] at hj; cases hj
  have hi : i < q.length := by
    rcases Nat.lt_or_ge i q.length with h | h
    · exact h
    · rw [List.getElem?_eq_none h] at hx; cases hx
  refine Rd.look (l := pre ++ q.flatMap enc ++ post) ?_
  rw [Nat.add_assoc, mid_get _ _ _ _ (by
    rw [flat_len hm]
    have : (i + 1) * m ≤ q.length * m := Nat.mul_le_mul_right _ (by omega)
    rw [Nat.add_mul] at this
    omega), flat_get hm q i j x hx hjm, hj]

/-! ### append -/

/-- The cells that stand behind a slice value of k elements. -/
def Src (P : HProp) (y : Value) (k : Nat) (news : List Value) : Prop :=
  (y = .slice none 0 0 ∧ k = 0 ∧ news = []) ∨ ∃ b o c, y = .slice (some (ad b o)) k c ∧ ∀ j u, news[j]? = some u → Rd P b (o + j) u

theorem run_append {t e m B len k : Nat} {ty : TypeId} {zs l news : List Value} {v y : Value} [Slc prog t e m] [Zer prog e zs] [Byt prog e B] (hzl : zs.length = m) (hm : 0 < m) {w : World} (hs : Sat σ w (sep (Own e m v len l) (P)))
    (hsrc : Src (sep (Own e m v len l) (P)) y k news) (hl : news.length = k * m) (h1 : ∀ u ∈ news, u.oneCell' = true) (h63 : len + k ≤ maxLen) (hB : (len + k) * B ≤ 140737488355328) :
    ∃ A c w', (Builtin.append_ #[t, t] ty #[v, y]).run prog w = .ok (.slice A (len + k) c) w' ∧ Sat σ w' (sep (Own e m (.slice A (len + k) c) (len + k) (l ++ news)) (P)) := by
  suffices hh : ∃ v' w', (Builtin.append_ #[t, t] ty #[v, y]).run prog w = .ok v' w' ∧ Sat σ w' (sep (Own e m v' (len + k) (l ++ news)) (P)) by
    obtain ⟨v', w', h1, h2⟩ := hh
    obtain ⟨A, c, rfl, _⟩ := own_val h2
    exact ⟨A, c, w', h1, h2⟩
  obtain ⟨ht, i, hi, hsz⟩ := Slc.spec (prog := prog) t e m
  obtain ⟨i', z, hi', hz, hzc⟩ := Zer.spec (prog := prog) e zs
  obtain rfl : i = i' := Option.some.inj (hi.symm.trans hi')
  obtain ⟨i', hi'', hb⟩ := Byt.spec (prog := prog) e B
  obtain rfl : i = i' := Option.some.inj (hi.symm.trans hi'')
  have hzsz : z.cells.size = m := by rw [← Array.length_toList, hzc, hzl]
  have hsmall : len + k ≤ 9223372036854775807 := by simp only [maxLen] at h63; omega
  -- a new array
  have fresh : ∀ (P' : HProp), Sat σ w P' → ∀ (olds : List Value) (old : Nat), olds.length = len * m → old < len + k →
      Sat σ (w.drew.alloc (.cells (olds.toArray ++ news.toArray ++ Builtin.zeroCells z.cells (grownCap w (len + k) old e - (len + k))) e))
        (sep (Own e m (.slice (some ⟨w.heap.size, 0, none⟩) (len + k) (grownCap w (len + k) old e)) (len + k) (olds ++ news)) (P')) := by
    intro P' hP' olds old ho _
    have hge := grownCap_ge w (len + k) old e
    have hle := grownCap_le_maxLen w (len + k) old e h63
    have h2 := hP'.drew.alloc (.cells (olds.toArray ++ news.toArray ++ Builtin.zeroCells z.cells (grownCap w (len + k) old e - (len + k))) e)
    have e1 : (olds.toArray ++ news.toArray ++ Builtin.zeroCells z.cells (grownCap w (len + k) old e - (len + k))) = ([] ++ (olds ++ news) ++ (Builtin.zeroCells z.cells (grownCap w (len + k) old e - (len + k))).toList).toArray := by
      apply Array.toList_inj.1; simp
    rw [e1] at h2 ⊢
    refine h2.ent (Ent.frame (Own.mk rfl hge hle (by rw [List.length_append, ho, hl, Nat.add_mul]) ?_) P')
    rw [Array.length_toList, size_zeroCells, hzsz]
    exact Nat.le_refl _
  rcases sat_own hs with ⟨rfl, rfl, rfl, hP⟩ | ⟨b, cap, pre, post, rfl, hc1, hc2, hc3, hc4, hP⟩
  · rcases hsrc with ⟨rfl, rfl, rfl⟩ | ⟨sb, so, c, rfl, hr⟩
    · refine ⟨.slice none 0 0, w, ?_, hs⟩
      simp [Builtin.append_, run_und' ht, run_sizeOf' hi, Builtin.lenOf, Builtin.firstCells]
    · by_cases hk : k = 0
      · subst hk
        have hn : news = [] := List.eq_nil_of_length_eq_zero (by simpa using hl)
        subst hn
        refine ⟨.slice none 0 0, w, ?_, hs⟩
        simp [Builtin.append_, run_und' ht, run_sizeOf' hi, Builtin.lenOf, Builtin.firstCells, loadCells, loadCellsFrom]
      · have hr' := run_append_nil (P := prog) w t ty e i z ht hi hz (ad sb so) k c news (by rw [hl, hsz]) (fun j u hj => by rw [ad_add]; exact hr j u hj σ w hs) (by omega) (by omega) (by rw [hb]; have := hB; simp only [Nat.zero_add] at this; omega)
        refine ⟨_, _, hr', ?_⟩
        have := fresh P hP [] 0 (by simp) (by omega)
        simpa using this
  · have hold : ∀ j u, l[j]? = some u → w.cell? ((ad b pre.length).add j) = some u := fun j u hj => by
      have hjl : j < l.length := by
        rcases Nat.lt_or_ge j l.length with h | h
        · exact h
        · rw [List.getElem?_eq_none h] at hj; cases hj
      rw [ad_add, cell_of_cel hP, mid_get _ _ _ _ hjl, hj]
    rcases hsrc with ⟨rfl, rfl, rfl⟩ | ⟨sb, so, c, rfl, hr⟩
    · refine ⟨_, w, ?_, by simpa using hs⟩
      simp [Builtin.append_, run_und' ht, run_sizeOf' hi, Builtin.lenOf, Builtin.firstCells, hc1, storeCells]
    · by_cases hroom : len + k ≤ cap
      · have hfc := run_firstCells_some (P := prog) w m k (ad sb so) k c news hl (fun j u hj => by rw [ad_add]; exact hr j u hj σ w hs)
        have hlen : (pre ++ l ++ post).length = pre.length + len * m + post.length := by simp [hc3]; omega
        have hfit : pre.length + len * m + 0 + news.length ≤ (pre ++ l ++ post).toArray.size := by
          rw [List.size_toArray, hlen, hl]
          have : k * m ≤ (cap - len) * m := Nat.mul_le_mul_right _ (by omega)
          omega
        have hst := run_storeCells_at prog b (pre.length + len * m) e news 0 (pre ++ l ++ post).toArray w hP.blk hfit h1
        simp only [Nat.add_zero] at hst
        have e2 : (pre ++ l ++ post).take (pre.length + len * m) ++ news ++ (pre ++ l ++ post).drop (pre.length + len * m + news.length) = pre ++ (l ++ news) ++ post.drop news.length := by
          have a1 : (pre ++ l ++ post).take (pre.length + len * m) = pre ++ l := List.take_left' (by simp [hc3])
          have a2 : (pre ++ l ++ post).drop (pre.length + len * m + news.length) = post.drop news.length := by
            rw [← List.drop_drop, List.drop_left' (by simp [hc3])]
          rw [a1, a2]; simp
        have hst' : (storeCells ((ad b pre.length).add (len * m)) news 0).run prog w = .ok () (w.setRow b (pre ++ (l ++ news) ++ post.drop news.length).toArray) := by
          rw [ad_add, ← e2]; exact hst
        have h5 : Sat σ (w.setRow b (pre ++ (l ++ news) ++ post.drop news.length).toArray) (sep (cel b (pre ++ (l ++ news) ++ post.drop news.length) e) (P)) := setRow_sat hP
        refine ⟨.slice (some (ad b pre.length)) (len + k) cap, w.setRow b (pre ++ (l ++ news) ++ post.drop news.length).toArray, ?_, ?_⟩
        · simp only [Builtin.append_, List.getElem?_toArray, List.getElem?_cons_zero, List.getElem?_cons_succ, Sem.run_bind, run_und' ht, Result.andThen_ok, run_sizeOf' hi, Sem.run_pure, Builtin.lenOf, hsz, hroom, if_true, hfc, hst', Sem.run_ite, Bool.false_eq_true, if_false, Bool.not_false]
        · refine h5.ent (Ent.frame (Own.mk rfl hroom hc2 (by rw [List.length_append, hc3, hl, Nat.add_mul]) ?_) P)
          rw [List.length_drop, hl, show cap - (len + k) = (cap - len) - k by omega, Nat.sub_mul]
          omega
      · have hr' := run_append_grow (P := prog) w t ty e i z ht hi hz (ad b pre.length) len cap l (by rw [hc3, hsz]) hold (ad sb so) k c news (by rw [hl, hsz]) (fun j u hj => by rw [ad_add]; exact hr j u hj σ w hs) (by omega) (by omega) (growslice_fits (by omega) (by rw [hb]; exact hB))
        exact ⟨_, _, hr', fresh P hP.drop l cap hc3 (by omega)⟩

/-- The slice v is among what P owns. -/
class FOwn (P : HProp) (e m : Nat) (v : Value) (len : outParam Nat) (l : outParam (List Value)) (R : outParam HProp) : Prop where
  eq : P = (sep (Own e m v len l) (R))
instance (priority := 100) {A P R : HProp} {e m len : Nat} {v : Value} {l : List Value} [h : FOwn P e m v len l R] : FOwn (sep (A) (P)) e m v len l (sep (A) (R)) := ⟨by rw [h.eq, sep_left_comm]⟩
instance (priority := 150) {A B P R : HProp} {e m len : Nat} {v : Value} {l : List Value} [h : FOwn (sep (A) (sep (B) (P))) e m v len l R] : FOwn (sep ((sep (A) (B))) (P)) e m v len l R := ⟨by rw [sep_assoc]; exact h.eq⟩
instance (priority := 200) {e m len : Nat} {v : Value} {l : List Value} {R : HProp} : FOwn (sep (Own e m v len l) (R)) e m v len l R := ⟨rfl⟩
theorem Src.lit {b : Nat} {l : List Value} {te : TypeId} {k c : Nat} [Look P b l te R] : Src P (.slice (some (ad b 0)) k c) k l := .inr ⟨b, 0, c, rfl, fun j u h => by rw [Nat.zero_add]; exact Rd.look h⟩
theorem Src.nil : Src P (.slice none 0 0) 0 [] := .inl ⟨rfl, rfl, rfl⟩
theorem opx_append {d : Nat} {x y : Operand} {t e m B len k : Nat} {ty : TypeId} {pos : String} {aft : Array Edge} {g : Option (Nat × Bool)} {zs l news : List Value} {v u : Value} [Slc prog t e m] [Zer prog e zs] [Byt prog e B] (hx : ev E x = some v) (hy : ev E y = some u) [hT : FOwn P e m v len l R]
    (hsrc : Src (sep (Own e m v len l) (R)) u k news) (hzl : zs.length = m) (hm : 0 < m) (hl : news.length = k * m) (h1 : ∀ u ∈ news, u.oneCell' = true) (h63 : len + k ≤ maxLen) (hB : (len + k) * B ≤ 140737488355328) (hd : Nat.blt d n = true) :
    OpX prog σ n E P ⟨some d, .call ⟨.builtin .append, #[x, y], #[t, t]⟩, ty, pos, aft, g⟩ (fun _ : Option Addr × Nat => True) (fun r => (d, .slice r.1 (len + k) r.2) :: E) (fun r => (sep (Own e m (.slice r.1 (len + k) r.2) (len + k) (l ++ news)) (R))) := by
  refine OpX.of_run rfl hd fun a w ha hw => ?_
  rw [hT.eq] at hw
  obtain ⟨A, c, w', hr, hs'⟩ := run_append (prog := prog) (t := t) (ty := ty) hzl hm hw hsrc hl h1 h63 hB
  refine ⟨(A, c), w', trivial, ?_, hs'⟩
  simp only [execOp, resolve, List.map_toArray, List.map_cons, List.map_nil, ha.ev hx, ha.ev hy, Sem.run_bind, Sem.run_pure, Result.andThen_ok, invoke, builtin, hr]
/-- A struct that lies whole in a block of one's own. -/
theorem opv_loadS {d : Option Tmp} {ty : TypeId} {pos : String} {aft : Array Edge} {g : Option (Nat × Bool)} {x : Operand} {t b o m : Nat} {l vs : List Value} {te : TypeId} [Agg prog t m] (hx : ev E x = some (.pointer (some (ad b o)))) [Look P b l te R] [hc : CutL l o m vs] :
    OpV prog σ n E P ⟨d, .load t x, ty, pos, aft, g⟩ (.agg vs.toArray) := opv_loadN hx hc.le fun j u hj => Rd.look (by
  rw [← hc.eq] at hj
  rw [List.getElem?_take] at hj
  split at hj
  · rw [List.getElem?_drop] at hj; exact hj
  · cases hj)

end Go.SLA
