/- Judgements on code over assertions: what is known of a frame is a list of slots with their values. -/
import Derived.Test.YtkkoepnljofhpaaDoorA
set_option linter.unusedVariables false
set_option linter.unusedSimpArgs false
namespace Go.SLA

/-! ### What is known of a frame -/

abbrev Env := List (Nat × Value)
def Env.get : List (Nat × Value) → Nat → Option Value
  | [], _ => none
  | (j, v) :: l, i => bif Nat.beq j i then some v else Env.get l i

structure Agree (n : Nat) (E : Env) (a : Act) : Prop where
  defers : a.defers = []
  size : a.tmps.size = n
  slot : ∀ i v, Env.get E i = some v → a.tmps[i]? = some v

theorem Env.get_cons (j : Nat) (v : Value) (E : Env) (i : Nat) : Env.get ((j, v) :: E) i = if j = i then some v else Env.get E i := by
  simp only [Env.get]
  by_cases h : j = i
  · subst h; simp
  · have : Nat.beq j i = false := by rw [Bool.eq_false_iff]; exact fun e => h (Nat.eq_of_beq_eq_true e)
    simp [this, h]

theorem Agree.put {n : Nat} {E : Env} {a : Act} (h : Agree n E a) {d : Nat} (hd : d < n) (v : Value) : Agree n ((d, v) :: E) (a.put (some d) v) := by
  refine ⟨h.defers, by simp [Act.put, h.size], fun i u hi => ?_⟩
  rw [Env.get_cons] at hi
  simp only [Act.put]
  by_cases e : d = i
  · subst e
    simp at hi
    subst hi
    simp [h.size, hd]
  · simp only [e, if_false] at hi
    rw [Array.getElem?_setIfInBounds_ne e]
    exact h.slot i u hi
theorem Agree.none {n : Nat} {E : Env} {a : Act} (h : Agree n E a) (v : Value) : Agree n E (a.put none v) := h

/-- Every slot of E' is known of E. -/
def Sub : Env → Env → Prop
  | [], _ => True
  | (i, v) :: l, E => Env.get E i = some v ∧ Sub l E
theorem Sub.get : ∀ {E' E : Env}, Sub E' E → ∀ i v, Env.get E' i = some v → Env.get E i = some v
  | [], _, _, i, v, h => by simp [Env.get] at h
  | (j, u) :: l, E, h, i, v, hi => by
    rw [Env.get_cons] at hi
    by_cases e : j = i
    · subst e
      simp at hi
      subst hi
      exact h.1
    · simp only [e, if_false] at hi
      exact Sub.get h.2 i v hi
theorem Agree.sub {n : Nat} {E E' : Env} {a : Act} (h : Agree n E a) (hs : Sub E' E) : Agree n E' a :=
  ⟨h.defers, h.size, fun i v hi => h.slot i v (hs.get i v hi)⟩

/-- An operand's value. -/
def ev (E : Env) : Operand → Option Value
  | .tmp t => Env.get E t
  | .const v => some v
  | .global g => some (.pointer (some ⟨g, 0, none⟩))
  | .func f => some (.func (.func f) #[] #[])
def evl (E : Env) : List Operand → Option (List Value)
  | [] => some []
  | x :: l => match ev E x, evl E l with
    | some v, some vs => some (v :: vs)
    | _, _ => none

theorem Agree.ev {n : Nat} {E : Env} {a : Act} (h : Agree n E a) {x : Operand} {v : Value} (hx : ev E x = some v) : a.eval x = v := by
  cases x with
  | tmp t =>
    have := h.slot t v hx
    simp [Act.eval, Array.getD_eq_getD_getElem?, this]
  | const u => simpa [SLA.ev, Act.eval] using hx
  | global g => simpa [SLA.ev, Act.eval] using hx
  | func f => simpa [SLA.ev, Act.eval] using hx
theorem Agree.evl {n : Nat} {E : Env} {a : Act} (h : Agree n E a) : ∀ {l : List Operand} {vs : List Value}, evl E l = some vs → l.map a.eval = vs
  | [], vs, hl => by simpa [SLA.evl] using hl
  | x :: l, vs, hl => by
    simp only [SLA.evl] at hl
    split at hl
    · rename_i v us hv hus
      simp only [Option.some.injEq] at hl
      subst hl
      rw [List.map_cons, h.ev hv, h.evl hus]
    · cases hl

/-- One assertion follows from another one: what is not asked for is dropped. -/
def Ent (P Q : HProp) : Prop := ∀ h, P h → ∃ h', (∀ b o, h' b = some o → h b = some o) ∧ Q h'
theorem Ent.pt {P Q : HProp} (e : ∀ h, P h → Q h) : Ent P Q := fun h hp => ⟨h, fun _ _ x => x, e h hp⟩
theorem Ent.of {P Q : HProp} (e : P = Q) : Ent P Q := Ent.pt fun _ h => e ▸ h
theorem Ent.refl (P : HProp) : Ent P P := Ent.pt fun _ h => h
theorem Ent.trans {P Q R : HProp} (h : Ent P Q) (k : Ent Q R) : Ent P R := fun x hx =>
  let ⟨y, hy, hq⟩ := h x hx
  let ⟨z, hz, hr⟩ := k y hq
  ⟨z, fun b o e => hy b o (hz b o e), hr⟩
theorem Ent.frame {P Q : HProp} (h : Ent P Q) (R : HProp) : Ent (sep (P) (R)) (sep (Q) (R)) := by
  rintro _ ⟨h1, h2, ha, rfl, hp, hr⟩
  obtain ⟨h1', hs, hq⟩ := h h1 hp
  have hn : ∀ b, h1 b = none → h1' b = none := fun b e => by
    cases e' : h1' b with
    | none => rfl
    | some o => rw [hs b o e'] at e; cases e
  refine ⟨Heap.join h1' h2, fun b o hb => ?_, h1', h2, fun b => (ha b).imp (hn b) id, rfl, hq, hr⟩
  simp only [Heap.join] at hb ⊢
  cases e : h1' b with
  | none =>
    rw [e] at hb
    simp only [Option.none_or] at hb
    rcases ha b with h' | h'
    · rw [h', Option.none_or, hb]
    · rw [h'] at hb; cases hb
  | some u =>
    rw [e] at hb
    simp only [Option.some_or, Option.some.injEq] at hb
    rw [hs b u e, hb, Option.some_or]
theorem Ent.frame_left {P Q : HProp} (h : Ent P Q) (R : HProp) : Ent (sep (R) (P)) (sep (R) (Q)) := by rw [sep_comm R P, sep_comm R Q]; exact h.frame R
theorem Ent.lift {p : Prop} {P : HProp} (h : p) : Ent P (sep (SLA.lift p) (P)) := by
  have : SLA.lift p = emp := by funext x; simp [SLA.lift, emp, h]
  rw [this, emp_sep]; exact Ent.refl _
theorem Ent.ex {X : Type} {f : X → HProp} {P : HProp} (x : X) : Ent (sep (f x) (P)) (sep (SLA.ex f) (P)) := Ent.pt fun _ ⟨h1, h2, ha, hj, hp, hr⟩ => ⟨h1, h2, ha, hj, ⟨x, hp⟩, hr⟩
theorem Ent.exo {X : Type} {f : X → HProp} (x : X) : Ent (f x) (SLA.ex f) := Ent.pt fun _ h => ⟨x, h⟩
theorem Ent.drop {P Q : HProp} : Ent (sep (P) (Q)) Q := by
  rintro _ ⟨h1, h2, ha, rfl, hp, hq⟩
  refine ⟨h2, fun b o hb => ?_, hq⟩
  rcases ha b with h | h
  · simp [Heap.join, h, hb]
  · rw [h] at hb; cases hb
theorem Ent.left {P Q : HProp} : Ent (sep (P) (Q)) P := by rw [sep_comm]; exact Ent.drop
theorem Sat.ent {σ w : World} {P Q : HProp} (h : Sat σ w P) (e : Ent P Q) : Sat σ w Q := by
  obtain ⟨h1, hp, hh⟩ := h.heap
  obtain ⟨h2, hs, hq⟩ := e h1 hp
  exact ⟨h.os, h.tape, h.output, h2, hq, fun b o hb => hh b o (hs b o hb)⟩

/-! ### The judgements -/

section
variable (prog : Program) (σ : World) (n : Nat)

def J (c : Code) (Q : Exit → Act → World → Prop) (E : Env) (P : HProp) : Prop := ∀ a w, Agree n E a → Sat σ w P → c.wp prog Q a w
def L (ops : Array Oper) (rest : List Oper) (Q : Exit → Act → World → Prop) (E : Env) (P : HProp) : Prop := ∀ a w, Agree n E a → Sat σ w P → wpList prog ops Q rest a w
def K (Q : Exit → Act → World → Prop) (e : Exit) (E : Env) (P : HProp) : Prop := ∀ a w, Agree n E a → Sat σ w P → Q e a w
end

/-- A continuation that no panic meets. -/
class NP (Q : Exit → Act → World → Prop) : Prop where
  no : ∀ c a w, ¬ Q (.panic c) a w
instance {R : Act → World → Prop} {Q : Exit → Act → World → Prop} [NP Q] : NP (Exit.then R Q) := ⟨fun c a w h => NP.no (Q := Q) c a w h⟩
instance {id : Nat} {Q : Exit → Act → World → Prop} [NP Q] : NP (Exit.inBlock id Q) := ⟨fun c a w h => NP.no (Q := Q) c a w h⟩

variable {prog : Program} {σ : World} {n : Nat} {Q : Exit → Act → World → Prop} {E E' : Env} {P P' R F : HProp} {ops : Array Oper} {rest : List Oper}

/-! ### Structure -/

theorem J_seq {x y : Code} (h : J prog σ n x (Exit.then (y.wp prog Q) Q) E P) : J prog σ n (.seq x y) Q E P := fun a w ha hs => wp_seq (h a w ha hs)
theorem J_skip (h : K σ n Q .normal E P) : J prog σ n .skip Q E P := fun a w ha hs => wp_skip (h a w ha hs)
theorem J_ret (h : K σ n Q .ret E P) : J prog σ n .ret Q E P := fun a w ha hs => wp_ret (h a w ha hs)
theorem J_exit {id : Nat} (h : K σ n Q (.exit id) E P) : J prog σ n (.exit id) Q E P := fun a w ha hs => wp_exit (h a w ha hs)
theorem J_label {l : Nat} (h : K σ n Q .normal E P) : J prog σ n (.label l) Q E P := fun a w ha hs => wp_label (h a w ha hs)
theorem J_goto {l : Nat} (h : K σ n Q (.goto l) E P) : J prog σ n (.goto l) Q E P := fun a w ha hs => wp_goto (h a w ha hs)
theorem J_block {id : Nat} {c : Code} (h : J prog σ n c (Exit.inBlock id Q) E P) : J prog σ n (.block id c) Q E P := fun a w ha hs => wp_block (h a w ha hs)
theorem J_region {id : Nat} {l : List Oper} (h : L prog σ n l.toArray l Q E P) : J prog σ n (.region id l.toArray false) Q E P :=
  fun a w ha hs => wp_region_lit (h a w ha hs)
theorem J_cond {c : Operand} {x y : Code} {p : Prop} [Decidable p] (hc : ev E c = some (.bool (decide p))) (ht : p → J prog σ n x Q E P) (hf : ¬ p → J prog σ n y Q E P) :
    J prog σ n (.cond c x y) Q E P := fun a w ha hs =>
  wp_cond_split (ha.ev hc) (fun h => ht (of_decide_eq_true h) a w ha hs) (fun h => hf (of_decide_eq_false h) a w ha hs)
theorem J_cond_true {c : Operand} {x y : Code} (hc : ev E c = some (.bool true)) (ht : J prog σ n x Q E P) : J prog σ n (.cond c x y) Q E P :=
  fun a w ha hs => wp_cond_true (ha.ev hc) (ht a w ha hs)
theorem J_cond_false {c : Operand} {x y : Code} (hc : ev E c = some (.bool false)) (ht : J prog σ n y Q E P) : J prog σ n (.cond c x y) Q E P :=
  fun a w ha hs => wp_cond_false (ha.ev hc) (ht a w ha hs)
theorem J_cond_bool {c : Operand} {x y : Code} {b : Bool} (hc : ev E c = some (.bool b)) (ht : b = true → J prog σ n x Q E P) (hf : b = false → J prog σ n y Q E P) :
    J prog σ n (.cond c x y) Q E P := fun a w ha hs => wp_cond_split (ha.ev hc) (fun h => ht h a w ha hs) (fun h => hf h a w ha hs)

theorem J_sub (E' : Env) (hs : Sub E' E) {c : Code} (h : J prog σ n c Q E' P) : J prog σ n c Q E P := fun a w ha hw => h a w (ha.sub hs) hw
theorem L_sub (E' : Env) (hs : Sub E' E) (h : L prog σ n ops rest Q E' P) : L prog σ n ops rest Q E P := fun a w ha hw => h a w (ha.sub hs) hw
theorem K_sub (E' : Env) (hs : Sub E' E) {e : Exit} (h : K σ n Q e E' P) : K σ n Q e E P := fun a w ha hw => h a w (ha.sub hs) hw
theorem J_eq (P' : HProp) (e : P = P') {c : Code} (h : J prog σ n c Q E P') : J prog σ n c Q E P := e ▸ h
theorem L_eq (P' : HProp) (e : P = P') (h : L prog σ n ops rest Q E P') : L prog σ n ops rest Q E P := e ▸ h
theorem K_eq (P' : HProp) (e : P = P') {x : Exit} (h : K σ n Q x E P') : K σ n Q x E P := e ▸ h
theorem J_imp (P' : HProp) (e : Ent P P') {c : Code} (h : J prog σ n c Q E P') : J prog σ n c Q E P := fun a w ha hw => h a w ha (hw.ent e)
theorem L_imp (P' : HProp) (e : Ent P P') (h : L prog σ n ops rest Q E P') : L prog σ n ops rest Q E P := fun a w ha hw => h a w ha (hw.ent e)
theorem K_imp (P' : HProp) (e : Ent P P') {x : Exit} (h : K σ n Q x E P') : K σ n Q x E P := fun a w ha hw => h a w ha (hw.ent e)
/-- What follows for a world from the assertion may be used. -/
theorem J_know {φ : Prop} (hk : ∀ w, Sat σ w P → φ) {c : Code} (h : φ → J prog σ n c Q E P) : J prog σ n c Q E P := fun a w ha hw => h (hk w hw) a w ha hw
theorem L_know {φ : Prop} (hk : ∀ w, Sat σ w P → φ) (h : φ → L prog σ n ops rest Q E P) : L prog σ n ops rest Q E P := fun a w ha hw => h (hk w hw) a w ha hw
theorem K_know {φ : Prop} (hk : ∀ w, Sat σ w P → φ) {x : Exit} (h : φ → K σ n Q x E P) : K σ n Q x E P := fun a w ha hw => h (hk w hw) a w ha hw
theorem J_ex {X : Type} {f : X → HProp} {c : Code} (h : ∀ x, J prog σ n c Q E (sep (f x) (P))) : J prog σ n c Q E (sep (ex f) (P)) :=
  fun a w ha hw => let ⟨x, hx⟩ := sat_ex.1 hw; h x a w ha hx
theorem L_ex {X : Type} {f : X → HProp} (h : ∀ x, L prog σ n ops rest Q E (sep (f x) (P))) : L prog σ n ops rest Q E (sep (ex f) (P)) :=
  fun a w ha hw => let ⟨x, hx⟩ := sat_ex.1 hw; h x a w ha hx
theorem K_ex {X : Type} {f : X → HProp} {e : Exit} (h : ∀ x, K σ n Q e E (sep (f x) (P))) : K σ n Q e E (sep (ex f) (P)) :=
  fun a w ha hw => let ⟨x, hx⟩ := sat_ex.1 hw; h x a w ha hx
theorem J_lift {p : Prop} {c : Code} (h : p → J prog σ n c Q E P) : J prog σ n c Q E (sep (lift p) (P)) :=
  fun a w ha hw => let ⟨x, hx⟩ := sat_lift.1 hw; h x a w ha hx
theorem L_lift {p : Prop} (h : p → L prog σ n ops rest Q E P) : L prog σ n ops rest Q E (sep (lift p) (P)) :=
  fun a w ha hw => let ⟨x, hx⟩ := sat_lift.1 hw; h x a w ha hx
theorem K_lift {p : Prop} {e : Exit} (h : p → K σ n Q e E P) : K σ n Q e E (sep (lift p) (P)) :=
  fun a w ha hw => let ⟨x, hx⟩ := sat_lift.1 hw; h x a w ha hx

theorem L_nil (h : K σ n Q .normal E P) : L prog σ n ops [] Q E P := fun a w ha hs => wpList_nil (h a w ha hs)

/-- An intermediate assertion: what stands behind a piece of code is proved once. -/
theorem J_cut {X : Type} {x y : Code} (E' : X → Env) (P' : X → HProp) (φ : X → Prop)
    (h1 : J prog σ n x (Exit.then (fun a w => ∃ i, φ i ∧ Agree n (E' i) a ∧ Sat σ w (P' i)) Q) E P) (h2 : ∀ i, φ i → J prog σ n y Q (E' i) (P' i)) : J prog σ n (.seq x y) Q E P :=
  J_seq fun a w ha hs => wp_mono (h1 a w ha hs) fun e a' w' he => by
    cases e with
    | normal => obtain ⟨i, hi, ha', hs'⟩ := he; exact h2 i hi a' w' ha' hs'
    | _ => exact he
theorem K_cut {X : Type} {E' : X → Env} {P' : X → HProp} {φ : X → Prop} {Q' : Exit → Act → World → Prop} (i : X) (hi : φ i) (hs : Sub (E' i) E) (hp : Ent P (P' i)) :
    K σ n (Exit.then (fun a w => ∃ i, φ i ∧ Agree n (E' i) a ∧ Sat σ w (P' i)) Q') .normal E P :=
  fun _ _ ha hw => ⟨i, hi, ha.sub hs, hw.ent hp⟩

/-! ### Behind a piece -/

theorem K_then {y : Code} (h : J prog σ n y Q E P) : K σ n (Exit.then (y.wp prog Q) Q) .normal E P := fun a w ha hs => h a w ha hs
theorem K_then_ret {X : Act → World → Prop} (h : K σ n Q .ret E P) : K σ n (Exit.then X Q) .ret E P := h
theorem K_then_exit {X : Act → World → Prop} {id : Nat} (h : K σ n Q (.exit id) E P) : K σ n (Exit.then X Q) (.exit id) E P := h
theorem K_then_goto {X : Act → World → Prop} {id : Nat} (h : K σ n Q (.goto id) E P) : K σ n (Exit.then X Q) (.goto id) E P := h
theorem K_block {id : Nat} (h : K σ n Q .normal E P) : K σ n (Exit.inBlock id Q) .normal E P := h
theorem K_block_ret {id : Nat} (h : K σ n Q .ret E P) : K σ n (Exit.inBlock id Q) .ret E P := h
theorem K_block_goto {id l : Nat} (h : K σ n Q (.goto l) E P) : K σ n (Exit.inBlock id Q) (.goto l) E P := h
theorem K_block_here {id : Nat} (h : K σ n Q .normal E P) : K σ n (Exit.inBlock id Q) (.exit id) E P :=
  fun a w ha hs => by simp only [Exit.inBlock, if_true]; exact h a w ha hs
theorem K_block_on {id id' : Nat} (hne : Nat.beq id' id = false) (h : K σ n Q (.exit id') E P) : K σ n (Exit.inBlock id Q) (.exit id') E P :=
  fun a w ha hs => by
    have : id' ≠ id := fun e => by rw [e, Nat.beq_refl] at hne; cases hne
    simp only [Exit.inBlock, this, if_false]; exact h a w ha hs

/-! ### A loop -/

theorem J_loop {X : Type} {c : Code} (E' : X → Env) (P' : X → HProp) (φ : X → Prop) (μ : X → Nat) (x0 : X) (h0 : φ x0) (hs : Sub (E' x0) E) (hp : Ent P (P' x0))
    (round : ∀ x, φ x → J prog σ n c (Exit.then (fun a w => ∃ y, (φ y ∧ μ y < μ x) ∧ Agree n (E' y) a ∧ Sat σ w (P' y)) Q) (E' x) (P' x)) : J prog σ n (.loop c) Q E P := by
  intro a w ha hw b k cs
  have key : ∀ m x a w, μ x = m → φ x → Agree n (E' x) a → Sat σ w (P' x) →
      ∃ e a' w', Q e a' w' ∧ Arrives prog (lone (b.at a (.code c :: .inLoop c :: k)) cs w) b k cs e a' w' := by
    intro m
    induction m using Nat.strongRecOn with
    | _ m ih =>
      intro x a w hm hx ha hw
      obtain ⟨e, a₁, w₁, hq, harr⟩ := round x hx a w ha hw b (.inLoop c :: k) cs
      cases e with
      | normal =>
        obtain ⟨y, ⟨hy, hlt⟩, ha₁, hw₁⟩ := hq
        obtain ⟨e₂, a₂, w₂, hq₂, harr₂⟩ := ih (μ y) (hm ▸ hlt) y a₁ w₁ rfl hy ha₁ hw₁
        exact ⟨e₂, a₂, w₂, hq₂, .of_steps (Steps.trans harr (.one step_inLoop)) harr₂⟩
      | exit id => exact ⟨_, a₁, w₁, hq, .pass (x := .inLoop c) rfl (fun _ _ => .inl (by simp)) harr⟩
      | goto l => exact ⟨_, a₁, w₁, hq, .pass (x := .inLoop c) rfl (fun _ _ => .inl (by simp)) harr⟩
      | ret => exact ⟨_, a₁, w₁, hq, .pass (x := .inLoop c) rfl (fun _ _ => .inl (by simp)) harr⟩
      | panic ch => exact ⟨_, a₁, w₁, hq, .pass (x := .inLoop c) rfl (fun _ _ => .inl (by simp)) harr⟩
      | outgrown => exact ⟨_, a₁, w₁, hq, .pass (x := .inLoop c) rfl (fun _ _ => .inl (by simp)) harr⟩
  obtain ⟨e, a', w', hq, harr⟩ := key _ x0 a w rfl h0 (ha.sub hs) (hw.ent hp)
  exact ⟨e, a', w', hq, .of_steps (.one step_loop) harr⟩
theorem K_loop {X : Type} {E' : X → Env} {P' : X → HProp} {φ : X → Prop} {μ : X → Nat} {x : X} {Q' : Exit → Act → World → Prop} (y : X) (hy : φ y) (hm : μ y < μ x) (hs : Sub (E' y) E) (hp : Ent P (P' y)) :
    K σ n (Exit.then (fun a w => ∃ y, (φ y ∧ μ y < μ x) ∧ Agree n (E' y) a ∧ Sat σ w (P' y)) Q') .normal E P :=
  fun _ _ ha hw => ⟨y, ⟨hy, hm⟩, ha.sub hs, hw.ent hp⟩

/-! ### A function -/

/-- From P the call returns val x for some x with φ x, and leaves Qo x: whatever stands beside P stays. -/
def FSpec (prog : Program) (f : FuncId) (args : Array Value) (P : HProp) {X : Type} (φ : X → Prop) (val : X → Value) (Qo : X → HProp) : Prop :=
  ∀ (σ w : World) (F : HProp), Sat σ w (sep (P) (F)) → Calls prog f args w fun e w' => ∃ x, φ x ∧ e = .returned (val x) ∧ Sat σ w' (sep (Qo x) (F))

def Back (σ : World) {X : Type} (φ : X → Prop) (val : X → Value) (Qo : X → HProp) (F : HProp) (e : Ending) (w' : World) : Prop :=
  ∃ x, φ x ∧ e = .returned (val x) ∧ Sat σ w' (sep (Qo x) (F))

instance {fn : Func} {X : Type} {φ : X → Prop} {val : X → Value} {Qo : X → HProp} : NP (bodyPost prog fn (Back σ φ val Qo F)) :=
  ⟨fun c a w h => by obtain ⟨_, x, _, he, _⟩ := h; cases he⟩

/-- A frame as it begins. -/
def Env.ofArgs : Nat → List Value → Env
  | _, [] => []
  | i, v :: l => (i, v) :: Env.ofArgs (i + 1) l
theorem Env.get_ofArgs : ∀ (l : List Value) (k i : Nat) (v : Value), Env.get (Env.ofArgs k l) i = some v → k ≤ i ∧ l[i - k]? = some v
  | [], k, i, v, h => by simp [Env.ofArgs, Env.get] at h
  | u :: l, k, i, v, h => by
    simp only [Env.ofArgs] at h
    rw [Env.get_cons] at h
    by_cases e : k = i
    · subst e
      simp at h
      simp [h]
    · simp only [e, if_false] at h
      obtain ⟨h1, h2⟩ := Env.get_ofArgs l (k + 1) i v h
      refine ⟨by omega, ?_⟩
      rw [show i - k = (i - (k + 1)) + 1 by omega]
      simpa using h2

theorem FSpec.enter {f : FuncId} {fn : Func} {c : Code} {args : List Value} {X : Type} {φ : X → Prop} {val : X → Value} {Qo : X → HProp} (hf : prog.funcs[f]? = some fn) (hb : fn.body = some c)
    (hn : Nat.ble args.length fn.ntmps = true)
    (h : ∀ σ F, J prog σ fn.ntmps c (bodyPost prog fn (Back σ φ val Qo F)) (Env.ofArgs 0 args) (sep (P) (F))) : FSpec prog f args.toArray P φ val Qo := by
  intro σ w F hs
  refine calls_of_wp hf hb ?_
  refine h σ F _ w ⟨rfl, ?_, ?_⟩ hs
  · have := Nat.le_of_ble_eq_true hn
    simp
    omega
  · intro i v hi
    obtain ⟨_, h2⟩ := Env.get_ofArgs args 0 i v hi
    have h2 : args[i]? = some v := h2
    have hlt : i < args.length := by
      rcases Nat.lt_or_ge i args.length with h | h
      · exact h
      · rw [List.getElem?_eq_none h] at h2; cases h2
    rw [Array.getElem?_append_left (by simpa using hlt)]
    simpa using h2

theorem FSpec.enter' {f : FuncId} {fn : Func} {c : Code} {m : Nat} {args : List Value} {X : Type} {φ : X → Prop} {val : X → Value} {Qo : X → HProp} (hf : prog.funcs[f]? = some fn) (hb : fn.body = some c)
    (hm : fn.ntmps = m) (hn : Nat.ble args.length m = true)
    (h : ∀ σ F, J prog σ m c (bodyPost prog fn (Back σ φ val Qo F)) (Env.ofArgs 0 args) (sep (P) (F))) : FSpec prog f args.toArray P φ val Qo :=
  by subst hm; exact FSpec.enter hf hb hn h
theorem L_emp (h : L prog σ n ops rest Q E P) : L prog σ n ops rest Q E (sep (emp) (P)) := by rw [emp_sep]; exact h
theorem J_emp {c : Code} (h : J prog σ n c Q E P) : J prog σ n c Q E (sep (emp) (P)) := by rw [emp_sep]; exact h

theorem K_ret0 {fn : Func} {X : Type} {φ : X → Prop} {val : X → Value} {Qo : X → HProp} (hr : fn.results = #[]) (x : X) (hx : φ x) (hv : val x = .tuple #[]) (hp : Ent P (sep (Qo x) (F))) :
    K σ n (bodyPost prog fn (Back σ φ val Qo F)) .ret E P := fun a w ha hs =>
  ⟨ha.defers, _, results_none hr a.tmps prog w, x, hx, by rw [hv], hs.ent hp⟩
theorem K_end0 {fn : Func} {X : Type} {φ : X → Prop} {val : X → Value} {Qo : X → HProp} (hr : fn.results = #[]) (x : X) (hx : φ x) (hv : val x = .tuple #[]) (hp : Ent P (sep (Qo x) (F))) :
    K σ n (bodyPost prog fn (Back σ φ val Qo F)) .normal E P := fun a w ha hs =>
  ⟨ha.defers, _, results_none hr a.tmps prog w, x, hx, by rw [hv], hs.ent hp⟩
theorem K_ret1 {fn : Func} {t : Tmp} {v : Value} {X : Type} {φ : X → Prop} {val : X → Value} {Qo : X → HProp} (hr : fn.results = #[.tmp t]) (hv : Env.get E t = some v) (x : X) (hx : φ x) (hvx : v = val x) (hp : Ent P (sep (Qo x) (F))) :
    K σ n (bodyPost prog fn (Back σ φ val Qo F)) .ret E P := fun a w ha hs =>
  ⟨ha.defers, _, results_tmp hr a.tmps prog w, x, hx, by rw [Array.getD_eq_getD_getElem?, ha.slot t v hv]; exact congrArg _ hvx, hs.ent hp⟩
theorem K_ret2 {fn : Func} {t u : Tmp} {v v' : Value} {X : Type} {φ : X → Prop} {val : X → Value} {Qo : X → HProp} (hr : fn.results = #[.tmp t, .tmp u]) (hv : Env.get E t = some v) (hv' : Env.get E u = some v') (x : X) (hx : φ x)
    (hvx : .tuple #[v, v'] = val x) (hp : Ent P (sep (Qo x) (F))) : K σ n (bodyPost prog fn (Back σ φ val Qo F)) .ret E P := fun a w ha hs =>
  ⟨ha.defers, _, results_tmp2 hr a.tmps prog w, x, hx, by rw [Array.getD_eq_getD_getElem?, Array.getD_eq_getD_getElem?, ha.slot t v hv, ha.slot u v' hv']; exact congrArg _ hvx, hs.ent hp⟩
theorem results_tmp3' {fn : Func} {t u s : Tmp} (h : fn.results = #[.tmp t, .tmp u, .tmp s]) (tmps : Array Value) (P : Program) (w : World) :
    (results fn tmps).run P w = .ok (.tuple #[tmps.getD t undef, tmps.getD u undef, tmps.getD s undef]) w := by
  simp [results, h]
theorem K_ret3 {fn : Func} {t u s : Tmp} {v v' v'' : Value} {X : Type} {φ : X → Prop} {val : X → Value} {Qo : X → HProp} (hr : fn.results = #[.tmp t, .tmp u, .tmp s]) (hv : Env.get E t = some v) (hv' : Env.get E u = some v') (hv'' : Env.get E s = some v'') (x : X) (hx : φ x)
    (hvx : .tuple #[v, v', v''] = val x) (hp : Ent P (sep (Qo x) (F))) : K σ n (bodyPost prog fn (Back σ φ val Qo F)) .ret E P := fun a w ha hs =>
  ⟨ha.defers, _, results_tmp3' hr a.tmps prog w, x, hx, by
    rw [Array.getD_eq_getD_getElem?, Array.getD_eq_getD_getElem?, Array.getD_eq_getD_getElem?, ha.slot t v hv, ha.slot u v' hv', ha.slot s v'' hv'']; exact congrArg _ hvx, hs.ent hp⟩

end Go.SLA
