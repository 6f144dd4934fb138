/- A scope through which the run goes without a jump. -/
import Derived.Test.YtjpbpfihacfndaaS
set_option linter.unusedVariables false
set_option linter.unusedSimpArgs false
namespace Go.SLA
variable {prog : Program} {σ : World} {n : Nat} {E : Env} {P : HProp} {Q : Exit → Act → World → Prop}
instance [NP Q] : NP (Exit.noGoto Q) := ⟨fun c a w h => NP.no (Q := Q) c a w h⟩
theorem J_scope_straight {c : Code} (h : J prog σ n c (Exit.noGoto Q) E P) : J prog σ n (.scope c) Q E P := fun a w ha hw => wp_scope_straight (h a w ha hw)
theorem K_str (h : K σ n Q .normal E P) : K σ n (Exit.noGoto Q) .normal E P := h
theorem K_str_ret (h : K σ n Q .ret E P) : K σ n (Exit.noGoto Q) .ret E P := h
theorem K_str_exit {id : Nat} (h : K σ n Q (.exit id) E P) : K σ n (Exit.noGoto Q) (.exit id) E P := h
end Go.SLA
