/- Maps whose keys are structs or arrays of plain cells, whatever their values are, and which may be ranged over: a new one, what is at a key, putting, taking out, a step of a range. -/
import Derived.Test.YtkkoepnljofhpaaDoorQ
import Derived.Laws.IdiomRangeMap
set_option linter.unusedVariables false
set_option linter.unusedSimpArgs false
namespace Go.SLA
attribute [local instance] Classical.propDecidable
/-- A map type with keys of type k; z: the zero value of its values. -/
class MapZ (prog : Program) (t : TypeId) (k : outParam TypeId) (z : outParam Value) : Prop where
  b : ∃ e, prog.underlying t = some (.map k e) ∧ (prog.info? e).bind (·.zero) = some z
theorem MapZ.spec {prog : Program} {t k : TypeId} {z : Value} (h : MapZ prog t k z) : ∃ e, prog.underlying t = some (.map k e) ∧ ∀ w, (zeroValue e).run prog w = .ok z w := by
  obtain ⟨e, h1, h2⟩ := h.b
  cases hi : prog.info? e with
  | none => rw [hi] at h2; cases h2
  | some i =>
    rw [hi] at h2
    have h3 : i.zero = some z := h2
    exact ⟨e, h1, fun w => by simp [zeroValue, run_typeInfo' hi, h3]⟩
def BornOk (es : List MapEntry) (c : Nat) : Prop := (es.map (·.born)).Nodup ∧ ∀ e ∈ es, e.born < c
def mapq (r : Nat) (ks : List CK) (f : List Value → Option Value) : HProp := ex fun x : Array MapEntry × Nat => (sep (lift (MapOk ks x.1.toList f ∧ BornOk x.1.toList x.2)) (blk r (.map x.1 x.2)))
variable {prog : Program} {σ : World} {n : Nat} {E : Env} {Pr R R' : HProp} {Q : Exit → Act → World → Prop}
variable {d : Option Nat} {ty : TypeId} {pos : String} {aft : Array Edge} {g : Option (Nat × Bool)} {x y z : Operand} {t kt : TypeId} {ks : List CK} {r : Nat} {f : List Value → Option Value} {k : List Value} {v zv : Value}
theorem sat_mapq {w : World} (h : Sat σ w (sep (mapq r ks f) (R))) : ∃ es c, w.heap[r]? = some (.map es c) ∧ MapOk ks es.toList f ∧ BornOk es.toList c ∧ Sat σ w (sep (blk r (.map es c)) (R)) := by
  obtain ⟨⟨es, c⟩, hx⟩ := sat_ex.1 h
  simp only [sep_assoc] at hx
  obtain ⟨h1, h2⟩ := sat_lift.1 hx
  exact ⟨es, c, h2.blk, h1.1, h1.2, h2⟩
theorem mapq_mk {es : Array MapEntry} {c : Nat} (h1 : MapOk ks es.toList f) (h2 : BornOk es.toList c) : Ent (blk r (.map es c)) (mapq r ks f) :=
  Ent.trans (Ent.lift (p := MapOk ks es.toList f ∧ BornOk es.toList c) ⟨h1, h2⟩) (Ent.exo (f := fun x : Array MapEntry × Nat => (sep (lift (MapOk ks x.1.toList f ∧ BornOk x.1.toList x.2)) (blk r (.map x.1 x.2)))) (es, c))
theorem lookup_runq [hm : MapZ prog t kt zv] [EqT prog kt ks] (hk : Shape ks k) {w : World} (hs : Sat σ w (sep (mapq r ks f) (R))) (c : Bool) :
    (Instr.lookup t (.map (some r)) (.agg k.toArray) c).run prog w = .ok (if c then .tuple #[(f k).getD zv, .bool (f k).isSome] else (f k).getD zv) w := by
  obtain ⟨e, h1, h2⟩ := hm.spec
  obtain ⟨es, clk, hb, ho, _⟩ := sat_mapq hs
  have hck := EqT.check (prog := prog) (t := kt) hk es.isEmpty w
  rcases findKey_run (prog := prog) (t := kt) hk w ho with ⟨h3, h4, _⟩ | ⟨j, e', h3, _, _, h4⟩
  · simp [Instr.lookup, run_underlying h1, run_getObj_map w r es clk hb, hck, h3, h4, h2 w]
  · simp [Instr.lookup, run_underlying h1, run_getObj_map w r es clk hb, hck, h3, h4]
theorem opv_lookupOkq [MapZ prog t kt zv] [EqT prog kt ks] (hx : ev E x = some (.map (some r))) (hy : ev E y = some (.agg k.toArray)) (hk : Shape ks k) [hT : Take Pr (mapq r ks f) R] :
    OpV prog σ n E Pr ⟨d, .lookup t x y true, ty, pos, aft, g⟩ (.tuple #[(f k).getD zv, .bool (f k).isSome]) := fun _ w ha hw => by
  rw [hT.eq] at hw
  have := lookup_runq (prog := prog) (t := t) hk hw true
  simp only [execOp, ha.ev hx, ha.ev hy, Sem.run_bind, this, Result.andThen_ok, Sem.run_pure]
  rfl
/-- A look-up in the nil map. -/
theorem opv_lookupOkN [hm : MapZ prog t kt zv] [EqT prog kt ks] (hx : ev E x = some (.map none)) (hy : ev E y = some (.agg k.toArray)) (hk : Shape ks k) :
    OpV prog σ n E Pr ⟨d, .lookup t x y true, ty, pos, aft, g⟩ (.tuple #[zv, .bool false]) := fun _ w ha hw => by
  obtain ⟨e, h1, h2⟩ := hm.spec
  have hck := EqT.check (prog := prog) (t := kt) hk true w
  simp only [execOp, ha.ev hx, ha.ev hy, Sem.run_bind]
  have : (Instr.lookup t (.map none) (.agg k.toArray) true).run prog w = .ok (.tuple #[zv, .bool false]) w := by
    rcases findKey_run (prog := prog) (t := kt) hk w (es := []) (f := fun _ => none) ⟨fun e he => by simp at he, by simp, fun k v => by simp⟩ with ⟨h3, _, _⟩ | ⟨j, e', _, h4, _⟩
    · simp [Instr.lookup, run_underlying h1, hck, h3, h2 w]
    · simp at h4
  simp only [this, Result.andThen_ok, Sem.run_pure]
/-- A map compared with nil. -/
theorem opv_eqlMapN {t' : TypeId} {p : Option Nat} {kk ee : TypeId} (hu : prog.underlying t = some (.map kk ee)) (hx : ev E x = some (.map p)) : OpV prog σ n E Pr ⟨d, .binOp .eql t x (.const (.map none)) t', ty, pos, aft, g⟩ (.bool p.isNone) := fun _ w ha hw => by
  simp only [execOp, ha.ev hx, ha.ev (show ev E (.const (.map none)) = some (.map none) from rfl)]
  rw [show eqGuard .eql t x (.const (.map none)) (.map p) (.map none) = pure () from rfl, show binOp .eql t (.map p) (.map none) = (do pure (.bool (← Op.equal t (.map p) (.map none)))) from by cases p <;> rfl]
  have : (Op.equal t (.map p) (.map none)).run prog w = .ok p.isNone w := by
    show (Op.equalIn (9999 + 1) t (.map p) (.map none)).run prog w = _
    generalize 9999 = dep
    unfold Op.equalIn
    rw [Sem.run_bind, run_und' hu, Result.andThen_ok]
    cases p <;> rfl
  simp [this]
theorem opx_makeMapq {d : Nat} (ks : List CK) (hd : Nat.blt d n = true) :
    OpX prog σ n E Pr ⟨some d, .makeMap t none, ty, pos, aft, g⟩ (fun _ : Nat => True) (fun r => (d, .map (some r)) :: E) (fun r => (sep (mapq r ks (fun _ => none)) (Pr))) := by
  refine OpX.of_run rfl hd fun a w ha hs => ?_
  refine ⟨w.heap.size, w.alloc (.map #[] 0), trivial, ?_, ?_⟩
  · have h1 : (Instr.makeMap t none).run prog w = .ok (.map (some w.heap.size)) (w.alloc (.map #[] 0)) := rfl
    simp only [execOp, Option.map_none, Sem.run_bind, h1, Result.andThen_ok, Sem.run_pure]
  · exact (hs.alloc (.map #[] 0)).ent ((mapq_mk ⟨fun e he => by simp at he, by simp, fun k v => by simp⟩ ⟨by simp, fun e he => by simp at he⟩).frame _)
theorem sat_setq {w : World} {es es' : Array MapEntry} {c c' : Nat} {f' : List Value → Option Value} (h : Sat σ w (sep (blk r (.map es c)) (R))) (ho : MapOk ks es'.toList f') (hb' : BornOk es'.toList c') : Sat σ { w with heap := w.heap.setIfInBounds r (.map es' c') } (sep (mapq r ks f') (R)) := by
  have hb := h.blk
  have hlt : r < w.heap.size := by
    rcases Nat.lt_or_ge r w.heap.size with hl | hl
    · exact hl
    · rw [Array.getElem?_eq_none hl] at hb; cases hb
  have h1 := h.update (w' := { w with heap := w.heap.setIfInBounds r (.map es' c') }) (o' := .map es' c') rfl rfl rfl (by simp [hlt]) (fun k hk => by
    show (w.heap.setIfInBounds r _)[k]? = _
    rw [Array.getElem?_setIfInBounds, if_neg (fun e => hk e.symm)])
  exact h1.ent ((mapq_mk ho hb').frame _)
theorem BornOk.push {es : List MapEntry} {c : Nat} (h : BornOk es c) (e : MapEntry) (he : e.born = c) : BornOk (es ++ [e]) (c + 1) := by
  refine ⟨?_, fun x hx => ?_⟩
  · rw [List.map_append, List.nodup_append]
    refine ⟨h.1, by simp, fun a ha b hb => ?_⟩
    obtain ⟨e', he', rfl⟩ := List.mem_map.1 ha
    simp only [List.map_cons, List.map_nil, List.mem_singleton] at hb
    have := h.2 e' he'
    omega
  · rcases List.mem_append.1 hx with hx | hx
    · have := h.2 x hx; omega
    · rw [List.mem_singleton.1 hx]; omega
theorem BornOk.modify {es : List MapEntry} {c j : Nat} (h : BornOk es c) (g : MapEntry → MapEntry) (hg : ∀ e, (g e).born = e.born) : BornOk (es.modify j g) c := by
  have e1 : (es.modify j g).map (·.born) = es.map (·.born) := by
    refine List.ext_getElem? fun i => ?_
    rw [List.getElem?_map, List.getElem?_map, List.getElem?_modify]
    by_cases hij : j = i
    · subst hij; cases es[j]? <;> simp [hg]
    · simp [hij]
  refine ⟨by rw [e1]; exact h.1, fun e he => ?_⟩
  have : e.born ∈ (es.modify j g).map (·.born) := List.mem_map.2 ⟨e, he, rfl⟩
  rw [e1] at this
  obtain ⟨e', he', h2⟩ := List.mem_map.1 this
  have := h.2 e' he'
  omega
theorem BornOk.erase {es : List MapEntry} {c j : Nat} (h : BornOk es c) : BornOk (es.eraseIdx j) c := by
  have hsub := List.eraseIdx_sublist es j
  exact ⟨h.1.sublist (hsub.map _), fun e he => h.2 e (hsub.subset he)⟩
theorem opx_mapUpdateq [hm : MapZ prog t kt zv] [EqT prog kt ks] (hx : ev E x = some (.map (some r))) (hy : ev E y = some (.agg k.toArray)) (hz : ev E z = some v) (hk : Shape ks k) [hT : Take Pr (mapq r ks f) R] :
    OpX prog σ n E Pr ⟨none, .mapUpdate t x y z, ty, pos, aft, g⟩ (fun _ : Unit => True) (fun _ => E) (fun _ => (sep (mapq r ks (mput f k v)) (R))) := by
  refine OpX.of_skip rfl fun a w ha hw => ?_
  rw [hT.eq] at hw
  obtain ⟨e, h1, h2⟩ := hm.spec
  obtain ⟨es, clk, hb, ho, hbo, hw'⟩ := sat_mapq hw
  have hck := EqT.check (prog := prog) (t := kt) hk false w
  rcases findKey_run (prog := prog) (t := kt) hk w ho with ⟨h3, _, h4⟩ | ⟨j, e', h3, h5, h6, _⟩
  · refine ⟨(), _, trivial, ?_, sat_setq (es' := es.push { key := .agg k.toArray, val := v, born := clk }) (c' := clk + 1) hw' (by rw [Array.toList_push]; exact ho.put_new hk h4 v) (by rw [Array.toList_push]; exact hbo.push _ rfl)⟩
    simp only [execOp, ha.ev hx, ha.ev hy, ha.ev hz, Instr.mapUpdate, Sem.run_bind, run_underlying h1, Result.andThen_ok, run_getObj_map w r es clk hb, hck, h3, run_setMap _ hb, Sem.run_pure]
  · have h7 : (es[j]?.map (·.key)).getD (.agg k.toArray) = .agg k.toArray := by
      rw [← Array.getElem?_toList, h5]
      exact h6
    refine ⟨(), _, trivial, ?_, sat_setq (es' := es.modify j fun e => { e with key := .agg k.toArray, val := v }) (c' := clk) hw' (by rw [Array.toList_modify]; exact ho.put_at hk h5 h6 v) (by rw [Array.toList_modify]; exact hbo.modify _ fun _ => rfl)⟩
    simp only [execOp, ha.ev hx, ha.ev hy, ha.ev hz, Instr.mapUpdate, Sem.run_bind, run_underlying h1, Result.andThen_ok, run_getObj_map w r es clk hb, hck, h3, h7, keyStays_run (prog := prog) hk w, run_setMap _ hb, Sem.run_pure]
theorem opx_deleteq {tk : TypeId} [hm : MapZ prog t kt zv] [EqT prog kt ks] (hx : ev E x = some (.map (some r))) (hy : ev E y = some (.agg k.toArray)) (hk : Shape ks k) [hT : Take Pr (mapq r ks f) R] :
    OpX prog σ n E Pr ⟨none, .call ⟨.builtin .delete, #[x, y], #[t, tk]⟩, ty, pos, aft, g⟩ (fun _ : Unit => True) (fun _ => E) (fun _ => (sep (mapq r ks (mdel f k)) (R))) := by
  refine OpX.of_val0 (val := fun _ => .tuple #[]) rfl fun a w ha hw => ?_
  rw [hT.eq] at hw
  obtain ⟨e, h1, h2⟩ := hm.spec
  obtain ⟨es, clk, hb, ho, hbo, hw'⟩ := sat_mapq hw
  have hck := EqT.check (prog := prog) (t := kt) hk es.isEmpty w
  rcases findKey_run (prog := prog) (t := kt) hk w ho with ⟨h3, _, h4⟩ | ⟨j, e', h3, h5, h6, _⟩
  · refine ⟨(), _, trivial, ?_, sat_setq (es' := es) (c' := clk) hw' (ho.del_none h4) hbo⟩
    simp only [execOp, resolve, List.map_toArray, List.map_cons, List.map_nil, ha.ev hx, ha.ev hy, Sem.run_bind, Sem.run_pure, Result.andThen_ok, invoke, builtin, Builtin.delete_, List.getElem?_toArray, List.getElem?_cons_zero, List.getElem?_cons_succ, run_underlying h1, run_getObj_map w r es clk hb, hck, h3, run_setMap _ hb]
  · have hjl : j < es.size := by have := (List.getElem?_eq_some_iff.1 h5).1; rwa [Array.length_toList] at this
    refine ⟨(), _, trivial, ?_, sat_setq (es' := es.eraseIdxIfInBounds j) (c' := clk) hw' (by rw [Array.eraseIdxIfInBounds, dif_pos hjl, Array.toList_eraseIdx]; exact ho.del_at h5 h6) (by rw [Array.eraseIdxIfInBounds, dif_pos hjl, Array.toList_eraseIdx]; exact hbo.erase)⟩
    simp only [execOp, resolve, List.map_toArray, List.map_cons, List.map_nil, ha.ev hx, ha.ev hy, Sem.run_bind, Sem.run_pure, Result.andThen_ok, invoke, builtin, Builtin.delete_, List.getElem?_toArray, List.getElem?_cons_zero, List.getElem?_cons_succ, run_underlying h1, run_getObj_map w r es clk hb, hck, h3, run_setMap _ hb]
/-! ### Ranging -/
theorem J_mapq {c : Code} (h : ∀ es clk, MapOk ks (Array.toList es) f → BornOk (Array.toList es) clk → J prog σ n c Q E (sep (blk r (.map es clk)) (R))) : J prog σ n c Q E (sep (mapq r ks f) (R)) :=
  fun a w ha hw => let ⟨es, clk, _, h1, h2, h3⟩ := sat_mapq hw; h es clk h1 h2 a w ha h3
theorem FSpec.mapq {X : Type} {fn : FuncId} {args : Array Value} {φ : X → Prop} {val : X → Value} {Qo : X → HProp} (h : ∀ es clk, MapOk ks (Array.toList es) f → BornOk (Array.toList es) clk → FSpec prog fn args (sep (blk r (.map es clk)) (R)) φ val Qo) : FSpec prog fn args (sep (SLA.mapq r ks f) (R)) φ val Qo :=
  fun σ w F hs => by
    rw [sep_assoc] at hs
    obtain ⟨es, clk, _, h1, h2, h3⟩ := sat_mapq hs
    exact h es clk h1 h2 σ w F (by rw [sep_assoc]; exact h3)
theorem opx_rangeM {d : Nat} {es : Array MapEntry} {clk : Nat} {kk ee : TypeId} (hu : prog.underlying t = some (.map kk ee)) (hx : ev E x = some (.map (some r))) [hT : Take Pr (blk r (.map es clk)) R] (hd : Nat.blt d n = true) :
    OpX prog σ n E Pr ⟨some d, .range t x, ty, pos, aft, g⟩ (fun _ : Nat => True) (fun it => (d, .pointer (some (ad it 0))) :: E) (fun it => (sep (blk it (.mapIter (some r) clk #[] clk)) (Pr))) := by
  refine OpX.of_run rfl hd fun a w ha hw => ?_
  have hb := (show Sat σ w (sep (blk r (.map es clk)) (R)) from hT.eq ▸ hw).blk
  refine ⟨w.heap.size, _, trivial, ?_, hw.alloc (.mapIter (some r) clk #[] clk)⟩
  have := run_range_map (P := prog) w t kk ee r es clk hu hb
  simp only [execOp, ha.ev hx, Sem.run_bind, this, Result.andThen_ok, Sem.run_pure, ad]
theorem opx_rangeN {d : Nat} {kk ee : TypeId} (hu : prog.underlying t = some (.map kk ee)) (hx : ev E x = some (.map none)) (hd : Nat.blt d n = true) :
    OpX prog σ n E Pr ⟨some d, .range t x, ty, pos, aft, g⟩ (fun _ : Nat => True) (fun it => (d, .pointer (some (ad it 0))) :: E) (fun it => (sep (blk it (.mapIter none 0 #[] 0)) (Pr))) := by
  refine OpX.of_run rfl hd fun a w ha hw => ?_
  refine ⟨w.heap.size, _, trivial, ?_, hw.alloc (.mapIter none 0 #[] 0)⟩
  have := run_range_nilMap (P := prog) w t kk ee hu
  simp only [execOp, ha.ev hx, Sem.run_bind, this, Result.andThen_ok, Sem.run_pure, ad]
theorem opv_nextN {it : Nat} {a b : Nat} {s : Array Nat} (hx : ev E x = some (.pointer (some (ad it 0)))) [hT : Take Pr (blk it (.mapIter none a s b)) R] :
    OpV prog σ n E Pr ⟨d, .next x false, ty, pos, aft, g⟩ (.tuple #[.bool false]) := fun ac w ha hw => by
  have hb := (show Sat σ w (sep (blk it (.mapIter none a s b)) (R)) from hT.eq ▸ hw).blk
  have : (Instr.next (.pointer (some (ad it 0))) false ty).run prog w = .ok (.tuple #[.bool false]) w := by
    simp only [Instr.next, getObj, Sem.run_bind, Sem.run, ad, hb, Result.andThen]
    rfl
  simp only [execOp, ha.ev hx, Sem.run_bind, this, Result.andThen_ok, Sem.run_pure]
/-- What a step of a range yields, and which entries it has seen. -/
def nxA : Option MapEntry → Array Value
  | none => #[.bool false]
  | some e => #[.bool true, e.key, e.val]
def nxS (s : Array Nat) : Option MapEntry → Array Nat
  | none => s
  | some e => s.push e.born
theorem opx_nextM {d : Nat} {it : Nat} {es : Array MapEntry} {clk : Nat} {seen : Array Nat} (hbo : BornOk es.toList clk) (hx : ev E x = some (.pointer (some (ad it 0)))) [hT : Take Pr (blk it (.mapIter (some r) clk seen clk)) R] [hT2 : Take R (blk r (.map es clk)) R'] (hd : Nat.blt d n = true) :
    OpX prog σ n E Pr ⟨some d, .next x false, ty, pos, aft, g⟩ (fun o : Option MapEntry => match o with | none => ∀ e ∈ es.toList, e.born ∈ seen | some e => e ∈ es.toList ∧ e.born ∉ seen) (fun o => (d, .tuple (nxA o)) :: E) (fun o => (sep (blk it (.mapIter (some r) clk (nxS seen o) clk)) (R))) := by
  refine OpX.of_run rfl hd fun a w ha hw => ?_
  have hw' : Sat σ w (sep (blk it (.mapIter (some r) clk seen clk)) (R)) := hT.eq ▸ hw
  have hb := hw'.blk
  have hb2 : w.heap[r]? = some (.map es clk) := by
    have h2 : Sat σ w R := hw'.drop
    rw [hT2.eq] at h2
    exact h2.blk
  have hnt := next_test_false seen es clk clk hbo.2 (Nat.le_refl _)
  have hlt : it < w.heap.size := by
    rcases Nat.lt_or_ge it w.heap.size with hl | hl
    · exact hl
    · rw [Array.getElem?_eq_none hl] at hb; cases hb
  have hL : ∀ e, e ∈ (leftOf es seen).toList ↔ e ∈ es.toList ∧ e.born ∉ seen := fun e => by unfold leftOf; simp
  have hmem : ∀ x ∈ (leftOf es seen).toList, x.born < clk := fun x hx => hbo.2 x ((hL x).1 hx).1
  have key : (∃ w', (Instr.next (.pointer (some (ad it 0))) false ty).run prog w = .ok (.tuple (nxA none)) w' ∧ w' = w ∧ (leftOf es seen).size = 0) ∨
      ∃ e ∈ (leftOf es seen).toList, ∃ w1 : World, (w1 = w ∨ w1 = w.drew) ∧ (Instr.next (.pointer (some (ad it 0))) false ty).run prog w = .ok (.tuple (nxA (some e))) { w1 with heap := w1.heap.setIfInBounds it (.mapIter (some r) clk (seen.push e.born) clk) } := by
    simp only [Instr.next, getObj, Sem.run_bind, Sem.run, ad, hb, hb2, Result.andThen, hnt, Bool.false_eq_true, if_false]
    unfold leftOf at hmem ⊢
    generalize Array.filter (fun e => !seen.contains e.born) es = L at hmem ⊢
    have e1 : L.filter (fun x => decide (x.born < clk)) = L := Array.filter_eq_self.2 (fun x hx => by simpa using hmem x (by simpa using hx))
    have e2 : L.filter (fun x => decide (x.born ≥ clk)) = #[] := by
      rw [Array.filter_eq_empty_iff]
      intro x hx
      have := hmem x (by simpa using hx)
      simp
      omega
    simp only [e1, e2, Array.append_empty]
    by_cases h0 : L.size = 0
    · left
      have : L = #[] := Array.eq_empty_of_size_eq_zero h0
      subst this
      refine ⟨w, ?_, rfl, rfl⟩
      simp [choose, Sem.run, Question.forced, nxA]
    · right
      have hne : L.isEmpty = false := by simp [Array.isEmpty, h0]
      simp only [hne, Bool.false_eq_true, if_false, Array.empty_append, Array.size_map]
      have hch : ∃ (j : Nat) (w1 : World), j < L.size ∧ (w1 = w ∨ w1 = w.drew) ∧ (choose (Question.mapNext L.size)).run prog w = .ok j w1 := by
        by_cases hf : L.size ≤ 1
        · exact ⟨0, w, by omega, .inl rfl, by simp [choose, Sem.run, Question.forced, hf]⟩
        · exact ⟨_, w.drew, Nat.mod_lt _ (by omega), .inr rfl, by
            simp only [choose, Sem.run, Question.forced, decide_eq_true_eq, hf, if_false, Question.cut]
            rfl⟩
      obtain ⟨j, w1, hj, hal, hrun⟩ := hch
      refine ⟨L[j], by simp, w1, hal, ?_⟩
      have hb1 : w1.heap[it]? = some (.mapIter (some r) clk seen clk) := by rcases hal with rfl | rfl <;> exact hb
      have hset : (setObj it (.mapIter (some r) clk (seen.push L[j].born) clk)).run prog w1 = .ok () { w1 with heap := w1.heap.setIfInBounds it (.mapIter (some r) clk (seen.push L[j].born) clk) } := by
        simp [setObj, Sem.run, hb1]
      simp only [hrun, Array.getElem?_map, Array.getElem?_eq_getElem hj, Option.map_some, Sem.run_bind, hset, Result.andThen]
      rfl
  rcases key with ⟨w', hr, rfl, h0⟩ | ⟨e, he, w1, hw1, hr⟩
  · refine ⟨none, w', fun e he => ?_, ?_, hw'⟩
    · rcases Classical.em (e.born ∈ seen) with h | h
      · exact h
      · have := (hL e).2 ⟨he, h⟩
        rw [Array.eq_empty_of_size_eq_zero h0] at this
        simp at this
    · simp only [execOp, ha.ev hx, Sem.run_bind, hr, Result.andThen_ok, Sem.run_pure]
  · refine ⟨some e, { w1 with heap := w1.heap.setIfInBounds it (.mapIter (some r) clk (seen.push e.born) clk) }, (hL e).1 he, ?_, ?_⟩
    · simp only [execOp, ha.ev hx, Sem.run_bind, hr, Result.andThen_ok, Sem.run_pure]
    · have hs1 : Sat σ w1 (sep (blk it (.mapIter (some r) clk seen clk)) (R)) := by
        rcases hw1 with rfl | rfl
        · exact hw'
        · exact hw'.drew
      have hlt1 : it < w1.heap.size := by rcases hw1 with rfl | rfl <;> exact hlt
      exact hs1.update (w' := { w1 with heap := w1.heap.setIfInBounds it _ }) rfl rfl rfl (by simp [hlt1, nxS]) (fun k hk => by
        show (w1.heap.setIfInBounds it _)[k]? = _
        rw [Array.getElem?_setIfInBounds, if_neg (fun e => hk e.symm)])
theorem opv_entryM {it : Nat} {es : Array MapEntry} {clk : Nat} {seen : Array Nat} {e : MapEntry} (he : e ∈ es.toList) (hbo : BornOk es.toList clk) (hx : ev E x = some (.pointer (some (ad it 0)))) [hT : Take Pr (blk it (.mapIter (some r) clk (seen.push e.born) clk)) R] [hT2 : Take R (blk r (.map es clk)) R'] :
    OpV prog σ n E Pr ⟨d, .entry x, ty, pos, aft, g⟩ (.tuple #[e.key, e.val]) := fun ac w ha hw => by
  have hw' : Sat σ w (sep (blk it (.mapIter (some r) clk (seen.push e.born) clk)) (R)) := hT.eq ▸ hw
  have hb := hw'.blk
  have hb2 : w.heap[r]? = some (.map es clk) := by
    have h2 : Sat σ w R := hw'.drop
    rw [hT2.eq] at h2
    exact h2.blk
  have hf : es.find? (·.born == e.born) = some e := by rw [← Array.find?_toList]; exact find_born e es.toList hbo.1 he
  have : (Instr.entry (.pointer (some (ad it 0)))).run prog w = .ok (.tuple #[e.key, e.val]) w := by
    simp only [Instr.entry, getObj, Sem.run_bind, Sem.run, ad, hb, hb2, Result.andThen, Array.back?_push, bne_self_eq_false, Bool.false_eq_true, if_false, hf]
    rfl
  simp only [execOp, ha.ev hx, Sem.run_bind, this, Result.andThen_ok, Sem.run_pure]
end Go.SLA
