/- Interfaces: a value put into one, and compared with nil. -/
import Derived.Test.YtkkoepnljofhpaaDoorQ
import Derived.WideLaws
set_option linter.unusedVariables false
set_option linter.unusedSimpArgs false
namespace Go.SLA
variable {prog : Program} {σ : World} {n : Nat} {E : Env} {P : HProp}
class Conc (prog : Program) (t : TypeId) : Prop where
  b : undB prog t (fun | .interface _ => false | _ => true) = true
class IfcT (prog : Program) (t : TypeId) : Prop where
  b : prog.underlying t = some (.interface (prog.methodsAt t))
theorem opv_makeIface {d : Option Tmp} {ty : TypeId} {pos : String} {aft : Array Edge} {g : Option (Nat × Bool)} {x : Operand} {t : TypeId} {v : Value} [hc : Conc prog t] (hx : ev E x = some v) : OpV prog σ n E P ⟨d, .makeInterface t x, ty, pos, aft, g⟩ (.iface t v) := by
  unfold OpV
  exact fun _ w ha _ => by
    obtain ⟨dd, hd, h1⟩ := undB_spec hc.b
    simp only [execOp, ha.ev hx, Instr.makeInterface, Sem.run_bind, run_und' hd, Result.andThen_ok]
    cases dd <;> first | rfl | cases h1
theorem opv_neqI {d : Option Tmp} {ty : TypeId} {pos : String} {aft : Array Edge} {g : Option (Nat × Bool)} {x : Operand} {t t' u : TypeId} {v : Value} [hc : IfcT prog t] (hx : ev E x = some (.iface u v)) : OpV prog σ n E P ⟨d, .binOp .neq t x (.const .nilIface) t', ty, pos, aft, g⟩ (.bool true) := by
  unfold OpV
  exact fun _ w ha _ => by
    simp only [execOp, ha.ev hx, ha.ev (show ev E (.const .nilIface) = some .nilIface from rfl)]
    rw [show eqGuard .neq t x (.const .nilIface) (.iface u v) .nilIface = pure () from rfl]
    simp [run_neq_held_nil w t u v hc.b]
theorem opv_neqI0 {d : Option Tmp} {ty : TypeId} {pos : String} {aft : Array Edge} {g : Option (Nat × Bool)} {x : Operand} {t t' : TypeId} [hc : IfcT prog t] (hx : ev E x = some .nilIface) : OpV prog σ n E P ⟨d, .binOp .neq t x (.const .nilIface) t', ty, pos, aft, g⟩ (.bool false) := by
  unfold OpV
  exact fun _ w ha _ => by
    simp only [execOp, ha.ev hx, ha.ev (show ev E (.const .nilIface) = some .nilIface from rfl)]
    have : (eqGuard .neq t x (.const .nilIface) .nilIface .nilIface).run prog w = .ok () w := by cases x <;> rfl
    simp [this, run_neq_nil_nil w t hc.b]
end Go.SLA
