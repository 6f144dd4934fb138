/- More results: a struct in a cell of one's own beside other ones. -/
import Derived.Test.YtkkoepnljofhpaaDoorN
set_option linter.unusedVariables false
set_option linter.unusedSimpArgs false
namespace Go.SLA
variable {prog : Program} {σ : World} {n : Nat} {E : Env} {P : HProp}
theorem run_loadVar_look {w : World} {b tr m : Nat} {l : List Value} {te : TypeId} {R : HProp} [Agg prog tr m] [hk : Look P b l te R] (hl : l.length = m) (hs : Sat σ w P) : (loadVar tr (ad b 0)).run prog w = .ok (.agg l.toArray) w := by
  obtain ⟨dd, i, h1, h2, h3, h4⟩ := Agg.spec (prog := prog) tr m
  have hc := run_loadCells_list (P := prog) (w := w) (ad b 0) l (fun j u hj => by rw [ad_add, Nat.zero_add]; exact Rd.look (P := P) hj σ w hs)
  simp only [loadVar, Sem.run_bind, run_isAgg' h1, h2, if_true, run_sizeOf' h3, h4, Result.andThen_ok]
  rw [← hl, hc]
  rfl
theorem K_ret2c {R F : HProp} {fn : Func} {r t : Tmp} {tr m b : Nat} {l : List Value} {te : TypeId} {v : Value} [Agg prog tr m] [hk : Look P b l te R] {X : Type} {φ : X → Prop} {val : X → Value} {Qo : X → HProp} (hr : fn.results = #[.cell r tr, .tmp t]) (hv : Env.get E r = some (.pointer (some (ad b 0)))) (hv2 : Env.get E t = some v) (hl : l.length = m) (x : X) (hx : φ x) (hvx : .tuple #[.agg l.toArray, v] = val x) (hp : Ent P (sep (Qo x) (F))) :
    K σ n (bodyPost prog fn (Back σ φ val Qo F)) .ret E P := fun a w ha hs => by
  have hlv := run_loadVar_look (prog := prog) (tr := tr) (b := b) (R := R) (te := te) hl hs
  have hg : a.tmps.getD r undef = .pointer (some (ad b 0)) := by rw [Array.getD_eq_getD_getElem?, ha.slot r _ hv]; rfl
  refine ⟨ha.defers, .tuple #[.agg l.toArray, v], ?_, x, hx, by rw [hvx], hs.ent hp⟩
  simp [results, hr, ha.slot r _ hv, ha.slot t _ hv2, asAddr, hlv]
theorem K_ret3c {R F : HProp} {fn : Func} {r t u : Tmp} {tr m b : Nat} {l : List Value} {te : TypeId} {v v' : Value} [Agg prog tr m] [hk : Look P b l te R] {X : Type} {φ : X → Prop} {val : X → Value} {Qo : X → HProp} (hr : fn.results = #[.cell r tr, .tmp t, .tmp u]) (hv : Env.get E r = some (.pointer (some (ad b 0)))) (hv2 : Env.get E t = some v) (hv3 : Env.get E u = some v') (hl : l.length = m) (x : X) (hx : φ x) (hvx : .tuple #[.agg l.toArray, v, v'] = val x) (hp : Ent P (sep (Qo x) (F))) :
    K σ n (bodyPost prog fn (Back σ φ val Qo F)) .ret E P := fun a w ha hs => by
  have hlv := run_loadVar_look (prog := prog) (tr := tr) (b := b) (R := R) (te := te) hl hs
  have hg : a.tmps.getD r undef = .pointer (some (ad b 0)) := by rw [Array.getD_eq_getD_getElem?, ha.slot r _ hv]; rfl
  refine ⟨ha.defers, .tuple #[.agg l.toArray, v, v'], ?_, x, hx, by rw [hvx], hs.ent hp⟩
  simp [results, hr, ha.slot r _ hv, ha.slot t _ hv2, ha.slot u _ hv3, asAddr, hlv]
end Go.SLA
