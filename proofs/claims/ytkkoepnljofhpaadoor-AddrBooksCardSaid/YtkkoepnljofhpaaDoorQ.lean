/- bytealg.MakeNoZero: a new block of whatever bytes. -/
import Derived.Test.YtkkoepnljofhpaaDoorU
import Derived.Lib.MakeNoZero
set_option linter.unusedVariables false
set_option linter.unusedSimpArgs false
namespace Go.SLA
variable {prog : Program} {σ : World} {n : Nat} {E : Env} {P : HProp}
/-- bytealg.MakeNoZero, at the slice type t of elements e. -/
class NoZ (prog : Program) (f : FuncId) (t e : outParam TypeId) : Prop where
  b : ∃ fn ps, prog.funcs[f]? = some fn ∧ (fn.name == "runtime.NumGoroutine") = false ∧ fn.body.isNone = true ∧ Extern.findNext fn = none ∧ Extern.find fn = some (Extern.BytealgMakeNoZero.makeNoZero ps #[t]) ∧ prog.underlying t = some (.slice e)
theorem opx_makeNoZero {d : Nat} {ty : TypeId} {pos : String} {aft : Array Edge} {g : Option (Nat × Bool)} {x : Operand} {tys : Array TypeId} {f : FuncId} {t e k : Nat} [hf : NoZ prog f t e] (hx : evl E [x] = some [.int .i64 (k : Nat)]) (hk : k ≤ 281474976710656) (hd : Nat.blt d n = true) :
    OpX prog σ n E P ⟨some d, .call ⟨.value (.func f), #[x], tys⟩, ty, pos, aft, g⟩ (fun r : Nat × List Value => k ≤ r.2.length ∧ r.2.length ≤ maxLen) (fun r => (d, .slice (some (ad r.1 0)) k r.2.length) :: E) (fun r => (sep (cel r.1 r.2 e) (P))) := by
  refine OpX.of_run rfl hd fun a w ha hw => ?_
  obtain ⟨fn, ps, h1, h2, h3, h4, h5, h6⟩ := hf.b
  have hc := run_callFunc_extern (P := prog) h1 h2 h3 h4 h5 #[.int .i64 (k : Nat)] w
  obtain ⟨cs, hr, hn, hm⟩ := Lib.run_makeNoZero (P := prog) w ps t e h6 k hk
  rw [hr] at hc
  refine ⟨(w.heap.size, cs.toList), w.drew.drew.alloc (.cells cs e), ⟨by simpa using hn, by simpa using hm (by unfold maxLen; omega)⟩, ?_, ?_⟩
  · unfold execOp
    simp only [resolve, Deferred.ofValue, ha.ev (show ev E (.func f) = some (.func (.func f) #[] #[]) from rfl), ha.evls (l := #[x]) hx, Sem.run_bind, Sem.run_pure, Result.andThen_ok, invoke]
    simp [hc, ad]
  · have := hw.drew.drew.alloc (.cells cs.toList.toArray e)
    rw [Array.toArray_toList] at this
    exact this
end Go.SLA
