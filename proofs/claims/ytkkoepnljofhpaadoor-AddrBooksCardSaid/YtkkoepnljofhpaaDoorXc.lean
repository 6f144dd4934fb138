import Derived.Test.YtkkoepnljofhpaaDoorH
import Derived.Test.YtkkoepnljofhpaaDoorTie
import Derived.Test.YtkkoepnljofhpaaDoorChecked
import Derived.ProofKit
import Derived.LaidMore
import Derived.OpenShut
import Derived.Stop.Joined
namespace Go.Proofs.YtkkoepnljofhpaaDoor
open Go Go.ChangeShapes Go.WideShapes Go.ChangeAt Go.WideMaps Go.WideElems Go.RowKit Go.SLA
theorem g64 : Tryd.prog.globalNamed "math/bits.deBruijn64tab" = some 7 := by kernel_rfl
theorem t64 : (Tryd.prog.globals[7]?).map (·.type) = some 171 := by kernel_rfl
set_option maxRecDepth 100000 in
theorem of_laid {W : World} (h : laidMetH Tryd.prog Rows.addrLaysRow.laid W) : W.cell? (ad 7 15) = some (.int .u8 4) := by
  rw [MakeChecks.laidMetH_plain _ _ _ (by kernel_rfl)] at h
  obtain ⟨ps, ⟨g0, t0, cs0, f0, p0, q0, hg0, ht0, hv0, hd0, ⟨g1, t1, cs1, f1, p1, q1, hg1, ht1, hv1, hd1, _⟩, _⟩, _, _⟩ := h
  obtain rfl := Option.some.inj (g64.symm.trans hg1)
  obtain rfl := Option.some.inj (t64.symm.trans ht1)
  obtain ⟨xs, m1, rfl, hx1, hlen, hn3, hel⟩ := DataW.trod_array Tryd.underlying171 hd1
  have c5 : Tryd.prog.cellsOf 5 = 1 := by kernel_rfl
  have h15 := hel 15 (by decide)
  rw [c5] at h15
  simp only [Prod.mk.injEq] at hx1
  have hx := hx1.1
  have h16 : xs[15]?.map (·.1) = some (.lit (.int .u8 4)) := by
    have e := congrArg (fun d : DataW _ => match d with | .agg l => l[15]? | _ => none) hx
    simpa [Rows.laid_math_bits_deBruijn64tab] using e.symm
  cases hxs : xs[15]? with
  | none => rw [hxs] at h16; cases h16
  | some y =>
    rw [hxs] at h15 h16
    simp only [Option.map_some, Option.some.injEq] at h16
    obtain ⟨k, e1, e2, _⟩ := DataW.trod_int Tryd.underlying5 (x := y) h15
    have hk : k = 4 := by rw [e2] at h16; simpa using h16
    subst hk
    have hc := World.var?_cell hg1 hv1 15
    have hc2 : cs1[15]? = some (.int .u8 4) := by
      have := congrArg (fun l : List Value => l[0]?) e1
      simpa [List.getElem?_take, List.getElem?_drop] using this
    rw [hc2] at hc
    exact hc
end Go.Proofs.YtkkoepnljofhpaaDoor
