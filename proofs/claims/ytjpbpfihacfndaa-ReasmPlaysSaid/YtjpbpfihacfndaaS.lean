/- A scope in which the run jumps back to one label. -/
import Derived.Test.YtjpbpfihacfndaaV
import Derived.ScopeJumps
set_option linter.unusedVariables false
set_option linter.unusedSimpArgs false
namespace Go.SLA
variable {prog : Program} {σ : World} {n : Nat} {E : Env} {P : HProp} {Q : Exit → Act → World → Prop}
theorem opv_andNot {d : Option Tmp} {ty : TypeId} {pos : String} {aft : Array Edge} {g : Option (Nat × Bool)} {x y : Operand} {t t' : TypeId} {k : IntKind} {a b : Int} (hx : ev E x = some (.int k a)) (hy : ev E y = some (.int k b)) : OpV prog σ n E P ⟨d, .binOp .andNot t x y t', ty, pos, aft, g⟩ (.int k (k.wrap (BitVec.ofInt k.bits a &&& ~~~ BitVec.ofInt k.bits b).toNat)) :=
  fun _ _ ha _ => by simp [execOp, ha.ev hx, ha.ev hy, eqGuard, binOp, Op.intBits]
instance {l : Nat} {J : Act → World → Prop} [NP Q] : NP (Exit.jump l J Q) := ⟨fun c a w h => NP.no (Q := Q) c a w h⟩
theorem J_scope {X : Type} {c : Code} (l : Nat) (rest : Code) (hf : findLabel c l = some rest) (E' : X → Env) (P' : X → HProp) (φ : X → Prop) (μ : X → Nat)
    (first : J prog σ n c (Exit.jump l (fun a w => ∃ x, φ x ∧ Agree n (E' x) a ∧ Sat σ w (P' x)) Q) E P)
    (pass : ∀ x, φ x → J prog σ n rest (Exit.jump l (fun a w => ∃ y, (φ y ∧ μ y < μ x) ∧ Agree n (E' y) a ∧ Sat σ w (P' y)) Q) (E' x) (P' x)) : J prog σ n (.scope c) Q E P := by
  intro a w ha hw b k cs
  have hg : gotoIn l (.inScope c :: k) = some (.code rest :: .inScope c :: k) := by simp [gotoIn, hf]
  have key : ∀ m x a w, μ x = m → φ x → Agree n (E' x) a → Sat σ w (P' x) → ∃ e a' w', Q e a' w' ∧ Arrives prog (lone (b.at a (.code rest :: .inScope c :: k)) cs w) b k cs e a' w' := by
    intro m
    induction m using Nat.strongRecOn with
    | _ m ih =>
      intro x a w hm hx ha hw
      obtain ⟨e, a₁, w₁, hq, harr⟩ := pass x hx a w ha hw b (.inScope c :: k) cs
      cases e with
      | normal => exact ⟨.normal, a₁, w₁, hq, Steps.trans harr (.one step_inScope)⟩
      | exit id => exact ⟨.exit id, a₁, w₁, hq, fun k' hk => harr k' (by simp [exitTo, hk])⟩
      | goto l' =>
        obtain ⟨rfl, y, ⟨hy, hlt⟩, ha₁, hw₁⟩ := hq
        obtain ⟨e₂, a₂, w₂, hq₂, harr₂⟩ := ih (μ y) (by omega) y a₁ w₁ rfl hy ha₁ hw₁
        exact ⟨e₂, a₂, w₂, hq₂, .of_steps (harr _ hg) harr₂⟩
      | ret => exact ⟨_, a₁, w₁, hq, harr⟩
      | panic ch => exact ⟨_, a₁, w₁, hq, harr⟩
      | outgrown => exact ⟨_, a₁, w₁, hq, harr⟩
  obtain ⟨e, a₁, w₁, hq, harr⟩ := first a w ha hw b (.inScope c :: k) cs
  cases e with
  | normal => exact ⟨.normal, a₁, w₁, hq, .head step_scope (Steps.trans harr (.one step_inScope))⟩
  | exit id => exact ⟨.exit id, a₁, w₁, hq, fun k' hk => .head step_scope (harr k' (by simp [exitTo, hk]))⟩
  | goto l' =>
    obtain ⟨rfl, x, hx, ha₁, hw₁⟩ := hq
    obtain ⟨e₂, a₂, w₂, hq₂, harr₂⟩ := key _ x a₁ w₁ rfl hx ha₁ hw₁
    exact ⟨e₂, a₂, w₂, hq₂, .of_steps (.head step_scope (harr _ hg)) harr₂⟩
  | ret => exact ⟨_, a₁, w₁, hq, .of_steps (.one step_scope) harr⟩
  | panic ch => exact ⟨_, a₁, w₁, hq, .of_steps (.one step_scope) harr⟩
  | outgrown => exact ⟨_, a₁, w₁, hq, .of_steps (.one step_scope) harr⟩
theorem K_jump {l : Nat} {J : Act → World → Prop} (h : K σ n Q .normal E P) : K σ n (Exit.jump l J Q) .normal E P := h
theorem K_jump_ret {l : Nat} {J : Act → World → Prop} (h : K σ n Q .ret E P) : K σ n (Exit.jump l J Q) .ret E P := h
theorem K_jump_exit {l id : Nat} {J : Act → World → Prop} (h : K σ n Q (.exit id) E P) : K σ n (Exit.jump l J Q) (.exit id) E P := h
theorem K_goto1 {X : Type} {l : Nat} {E' : X → Env} {P' : X → HProp} {φ : X → Prop} (x : X) (hx : φ x) (hs : Sub (E' x) E) (hp : Ent P (P' x)) : K σ n (Exit.jump l (fun a w => ∃ x, φ x ∧ Agree n (E' x) a ∧ Sat σ w (P' x)) Q) (.goto l) E P := fun _ _ ha hw => ⟨rfl, x, hx, ha.sub hs, hw.ent hp⟩
theorem K_goto2 {X : Type} {l : Nat} {E' : X → Env} {P' : X → HProp} {φ : X → Prop} {μ : X → Nat} {x : X} (y : X) (hy : φ y) (hm : μ y < μ x) (hs : Sub (E' y) E) (hp : Ent P (P' y)) : K σ n (Exit.jump l (fun a w => ∃ y, (φ y ∧ μ y < μ x) ∧ Agree n (E' y) a ∧ Sat σ w (P' y)) Q) (.goto l) E P := fun _ _ ha hw => ⟨rfl, y, ⟨hy, hm⟩, ha.sub hs, hw.ent hp⟩
end Go.SLA
