/- Bytes of one's own, appended to and made a string; clearing; operations without a slot. -/
import Derived.Test.YtkkoepnljofhpaaDoorP
import Derived.Test.YtkkoepnljofhpaaDoorM
import Derived.Laws.CopyRow
set_option linter.unusedVariables false
set_option linter.unusedSimpArgs false
namespace Go.SLA
variable {prog : Program} {σ : World} {n : Nat} {E : Env} {P R : HProp}
theorem OpX.of_val0 {o : Oper} {X : Type} {φ : X → Prop} {val : X → Value} {P' : X → HProp} (ho : o.dst = none)
    (h : ∀ a w, Agree n E a → Sat σ w P → ∃ x w', φ x ∧ (execOp a.eval o).run prog w = .ok (.value (val x)) w' ∧ Sat σ w' (P' x)) : OpX prog σ n E P o φ (fun _ => E) P' := by
  intro a w ha hs Kn Q hk
  obtain ⟨x, w', hx, hr, hs'⟩ := h a w ha hs
  unfold Oper.wp
  rw [hr, Oper.upon_value]
  exact hk x _ _ hx (by rw [ho]; exact ha) hs'
section
variable {ty : TypeId} {pos : String} {aft : Array Edge} {g : Option (Nat × Bool)} {x y z : Operand} {t kt : TypeId} {ks : List CK} {r : Nat} {f : List Value → Option Value} {k : List Value} {v : Value}
theorem opx_delete0 {tk : TypeId} [hm : MapP prog t kt] [EqT prog kt ks] (hx : ev E x = some (.map (some r))) (hy : ev E y = some (.agg k.toArray)) (hk : Shape ks k) [hT : Take P (mapp r ks f) R] :
    OpX prog σ n E P ⟨none, .call ⟨.builtin .delete, #[x, y], #[t, tk]⟩, ty, pos, aft, g⟩ (fun _ : Unit => True) (fun _ => E) (fun _ => (sep (mapp r ks (mdel f k)) (R))) := by
  refine OpX.of_val0 (val := fun _ => .tuple #[]) rfl fun a w ha hw => ?_
  rw [hT.eq] at hw
  obtain ⟨e, h1, h2⟩ := hm.spec
  obtain ⟨es, clk, hb, ho, hw'⟩ := sat_mapp hw
  have hck := EqT.check (prog := prog) (t := kt) hk es.isEmpty w
  rcases findKey_run (prog := prog) (t := kt) hk w ho with ⟨h3, _, h4⟩ | ⟨j, e', h3, h5, h6, _⟩
  · refine ⟨(), _, trivial, ?_, sat_set (es' := es) (c' := clk) hw' (ho.del_none h4)⟩
    simp only [execOp, resolve, List.map_toArray, List.map_cons, List.map_nil, ha.ev hx, ha.ev hy, Sem.run_bind, Sem.run_pure, Result.andThen_ok, invoke, builtin, Builtin.delete_, List.getElem?_toArray, List.getElem?_cons_zero, List.getElem?_cons_succ, run_underlying h1, run_getObj_map w r es clk hb, hck, h3, run_setMap _ hb]
  · have hjl : j < es.size := by have := (List.getElem?_eq_some_iff.1 h5).1; rwa [Array.length_toList] at this
    refine ⟨(), _, trivial, ?_, sat_set (es' := es.eraseIdxIfInBounds j) (c' := clk) hw' (by rw [Array.eraseIdxIfInBounds, dif_pos hjl, Array.toList_eraseIdx]; exact ho.del_at h5 h6)⟩
    simp only [execOp, resolve, List.map_toArray, List.map_cons, List.map_nil, ha.ev hx, ha.ev hy, Sem.run_bind, Sem.run_pure, Result.andThen_ok, invoke, builtin, Builtin.delete_, List.getElem?_toArray, List.getElem?_cons_zero, List.getElem?_cons_succ, run_underlying h1, run_getObj_map w r es clk hb, hck, h3, run_setMap _ hb]
theorem zeroCells_one {zs : List Value} {z : Array Value} (hz : z.toList = zs) (h1 : ∀ u ∈ zs, u.oneCell' = true) (k : Nat) : ∀ u ∈ (Builtin.zeroCells z k).toList, u.oneCell' = true := by
  intro u hu
  rw [Array.mem_toList_iff] at hu
  unfold Builtin.zeroCells at hu
  obtain ⟨i, hi, rfl⟩ := Array.mem_map.1 hu
  rw [Array.mem_range] at hi
  have hp : 0 < z.size := by
    rcases Nat.eq_zero_or_pos z.size with h | h
    · rw [h, Nat.mul_zero] at hi; omega
    · exact h
  have hl : i % z.size < z.size := Nat.mod_lt _ hp
  rw [getElem!_pos z _ hl]
  exact h1 _ (by rw [← hz]; exact Array.mem_toList_iff.2 (Array.getElem_mem hl))
/-- Clearing the end of an array of one's own: what stands ahead stays. -/
theorem opx_clear {e m b o c k : Nat} {zs l : List Value} {te : TypeId} [Slc prog t e m] [Zer prog e zs] (hx : ev E x = some (.slice (some (ad b o)) k c)) (hzl : zs.length = m) (h1 : ∀ u ∈ zs, u.oneCell' = true) [hk : Look P b l te R] (hle : o + k * m ≤ l.length) :
    OpX prog σ n E P ⟨none, .call ⟨.builtin .clear, #[x], #[t]⟩, ty, pos, aft, g⟩ (fun l' : List Value => l'.take o = l.take o ∧ l'.length = l.length) (fun _ => E) (fun l' => (sep (cel b l' te) (R))) := by
  refine OpX.of_val0 (val := fun _ => .tuple #[]) rfl fun a w ha hw => ?_
  rw [hk.eq] at hw
  obtain ⟨ht, i, hi, hsz⟩ := Slc.spec (prog := prog) t e m
  obtain ⟨i', z, hi', hz, hzc⟩ := Zer.spec (prog := prog) e zs
  obtain rfl : i = i' := Option.some.inj (hi.symm.trans hi')
  have hzsz : z.cells.size = m := by rw [← Array.length_toList, hzc, hzl]
  have hzl2 : (Builtin.zeroCells z.cells k).toList.length = k * m := by rw [Array.length_toList, size_zeroCells, hzsz]
  have hst := run_storeCells_at prog b o te (Builtin.zeroCells z.cells k).toList 0 l.toArray w hw.blk (by rw [hzl2, List.size_toArray]; omega) (zeroCells_one hzc h1 k)
  simp only [Nat.add_zero] at hst
  refine ⟨l.take o ++ (Builtin.zeroCells z.cells k).toList ++ l.drop (o + (Builtin.zeroCells z.cells k).toList.length), w.setRow b (l.take o ++ (Builtin.zeroCells z.cells k).toList ++ l.drop (o + (Builtin.zeroCells z.cells k).toList.length)).toArray, ⟨?_, ?_⟩, ?_, setRow_sat hw⟩
  · rw [List.append_assoc, List.take_left' (by rw [List.length_take]; omega)]
  · simp only [List.length_append, List.length_take, List.length_drop, hzl2]; omega
  · have hcl : (Builtin.clear_ #[t] ty #[.slice (some (ad b o)) k c]).run prog w = .ok (.tuple #[]) (w.setRow b (l.take o ++ (Builtin.zeroCells z.cells k).toList ++ l.drop (o + (Builtin.zeroCells z.cells k).toList.length)).toArray) := by
      rcases Nat.eq_zero_or_pos k with rfl | hp
      · have e0 : (Builtin.zeroCells z.cells 0).toList = [] := List.eq_nil_of_length_eq_zero (by rw [hzl2, Nat.zero_mul])
        rw [e0]
        simp only [List.append_nil, List.length_nil, Nat.add_zero, List.take_append_drop]
        rw [setRow_self w b l.toArray te (0, 0) hw.blk]
        simp [Builtin.clear_, run_und' ht]
      · obtain ⟨k', rfl⟩ : ∃ k', k = k' + 1 := ⟨k - 1, by omega⟩
        have hzv : (zeroValue e).run prog w = .ok z w := by simp [zeroValue, run_typeInfo' hi, hz]
        have hst' : (storeCells (ad b o) (Builtin.zeroCells z.cells (k' + 1)).toList 0).run prog w = .ok () (w.setRow b (l.take o ++ (Builtin.zeroCells z.cells (k' + 1)).toList ++ l.drop (o + (Builtin.zeroCells z.cells (k' + 1)).toList.length)).toArray) := by simpa [ad] using hst
        simp only [Builtin.clear_, List.getElem?_toArray, List.getElem?_cons_zero, Sem.run_bind, run_und' ht, Result.andThen_ok, hzv, hst', Sem.run_pure]
    simp only [execOp, resolve, List.map_toArray, List.map_cons, List.map_nil, ha.ev hx, Sem.run_bind, Sem.run_pure, Result.andThen_ok, invoke, builtin, hcl]
end
/-- x is bytes of one's own: an array of a literal or behind appends, or the one behind a conversion. -/
def OwnB (e : TypeId) (x : Option Addr × Nat) (s : ByteArray) : HProp := ex fun z : Option (Nat × Nat) => match z with
  | none => Own e 1 (.slice x.1 s.size x.2) s.size (bts s)
  | some (b, c) => (sep (lift (x = (some (ad b 0), c) ∧ s.size ≤ c ∧ c ≤ maxLen)) (byb b s c e))
theorem OwnB.own {e : TypeId} {x : Option Addr × Nat} {s : ByteArray} : Ent (Own e 1 (.slice x.1 s.size x.2) s.size (bts s)) (OwnB e x s) := Ent.pt fun h hh => ⟨none, hh⟩
theorem OwnB.byb {e : TypeId} {b c : Nat} {s : ByteArray} (h1 : s.size ≤ c) (h2 : c ≤ maxLen) : Ent (SLA.byb b s c e) (OwnB e (some (ad b 0), c) s) :=
  Ent.trans (Ent.lift (p := ((some (ad b 0), c) : Option Addr × Nat) = (some (ad b 0), c) ∧ s.size ≤ c ∧ c ≤ maxLen) ⟨rfl, h1, h2⟩) (Ent.pt fun h hh => ⟨some (b, c), hh⟩)
class FOwnB (P : HProp) (e : TypeId) (x : Option Addr × Nat) (s : outParam ByteArray) (R : outParam HProp) : Prop where
  eq : P = (sep (OwnB e x s) (R))
instance (priority := 100) {A P R : HProp} {e : TypeId} {x : Option Addr × Nat} {s : ByteArray} [h : FOwnB P e x s R] : FOwnB (sep (A) (P)) e x s (sep (A) (R)) := ⟨by rw [h.eq, sep_left_comm]⟩
instance (priority := 150) {A B P R : HProp} {e : TypeId} {x : Option Addr × Nat} {s : ByteArray} [h : FOwnB (sep (A) (sep (B) (P))) e x s R] : FOwnB (sep ((sep (A) (B))) (P)) e x s R := ⟨by rw [sep_assoc]; exact h.eq⟩
instance (priority := 200) {e : TypeId} {x : Option Addr × Nat} {s : ByteArray} {R : HProp} : FOwnB (sep (OwnB e x s) (R)) e x s R := ⟨rfl⟩
instance (priority := 90) {e : TypeId} {x : Option Addr × Nat} {s : ByteArray} : FOwnB (OwnB e x s) e x s emp := ⟨(sep_emp _).symm⟩
theorem sat_ownB {w : World} {e : TypeId} {x : Option Addr × Nat} {s : ByteArray} (h : Sat σ w (sep (OwnB e x s) (R))) : Sat σ w (sep (Own e 1 (.slice x.1 s.size x.2) s.size (bts s)) (R)) ∨ ∃ b c, x = (some (ad b 0), c) ∧ s.size ≤ c ∧ c ≤ maxLen ∧ Sat σ w (sep (SLA.byb b s c e) (R)) := by
  obtain ⟨z, hz⟩ := sat_ex.1 h
  cases z with
  | none => exact .inl hz
  | some bc =>
    obtain ⟨b, c⟩ := bc
    simp only [sep_assoc] at hz
    obtain ⟨⟨h1, h2, h3⟩, h4⟩ := sat_lift.1 hz
    exact .inr ⟨b, c, h1, h2, h3, h4⟩
/-- Its bytes, as a string. -/
theorem opv_b2sB {d : Option Tmp} {ty : TypeId} {pos : String} {aft : Array Edge} {g : Option (Nat × Bool)} {x : Operand} {src dst e : TypeId} {u : Option Addr × Nat} {s : ByteArray} {k : Nat} [Slc prog src e 1] [IntT prog e .u8] [Str prog dst] (hx : ev E x = some (.slice u.1 k u.2)) [hT : FOwnB P e u s R] (hk : k = s.size) :
    OpV prog σ n E P ⟨d, .convert src dst x, ty, pos, aft, g⟩ (.string s) := fun a w ha hw => by
  subst hk
  have hw' := hw
  rw [hT.eq] at hw'
  rcases sat_ownB hw' with h | ⟨b, c, rfl, _, _, h⟩
  · exact opv_b2sO (P := (sep (Own e 1 (.slice u.1 s.size u.2) s.size (bts s)) (R))) hx rfl a w ha h
  · exact opv_b2s (P := (sep (SLA.byb b s c e) (R))) hx (Src.byb (e := e)) a w ha h
theorem run_storeCells_atG (P : Program) (g o : Nat) (t : TypeId) (fz : Nat × Nat) : ∀ (vs : List Value) (i : Nat) (cur : Array Value) (w : World), w.heap[g]? = some (.cells cur t fz) → cur.size ≤ fz.1 → o + i + vs.length ≤ cur.size → (∀ v ∈ vs, v.oneCell' = true) →
    (storeCells ⟨g, o, none⟩ vs i).run P w = .ok () (w.setRow g (cur.toList.take (o + i) ++ vs ++ cur.toList.drop (o + i + vs.length)).toArray)
  | [], i, cur, w, hg, _, _, _ => by
    simp only [storeCells, List.append_nil, List.length_nil, Nat.add_zero, List.take_append_drop, Array.toArray_toList]
    rw [setRow_self w g cur t fz hg]
    rfl
  | v :: rest, i, cur, w, hg, hfz, hl, h1 => by
    have hi : o + i < cur.size := by simp at hl; omega
    have hadd : (⟨g, o, none⟩ : Addr).add i = ⟨g, o + i, none⟩ := by unfold Addr.add; split <;> simp_all
    have hcell : w.cell? ⟨g, o + i, none⟩ = some cur[o + i] := by simp [World.cell?, hg, hi]
    have hfro : w.frozen? ⟨g, o + i, none⟩ = false := by
      obtain ⟨lo, hi'⟩ := fz
      simp only [World.frozen?, hg, Bool.and_eq_false_iff, decide_eq_false_iff_not]
      left
      simp only at hfz
      omega
    have hst : (store ((⟨g, o, none⟩ : Addr).add i) v).run P w = .ok () (w.setRow g (cur.setIfInBounds (o + i) v)) := by
      rw [hadd, run_store P w _ v _ (h1 v (by simp)), hcell]
      simp [hfro, setCell_eq_setRow w g (o + i) cur t fz v hg]
    have ih := run_storeCells_atG P g o t fz rest (i + 1) (cur.setIfInBounds (o + i) v) (w.setRow g (cur.setIfInBounds (o + i) v)) (setRow_heap w g cur _ t _ hg) (by simpa using hfz) (by simp at hl ⊢; omega) (fun x hx => h1 x (by simp [hx]))
    simp only [storeCells, Sem.run_bind, hst, Result.andThen_ok, ih, setRow_setRow]
    congr 3
    have e := list_seg_step cur.toList (o + i) v rest (by simp at hl ⊢; omega)
    simpa [Array.toList_setIfInBounds, Nat.add_assoc] using e
theorem bytesRow_list (s : ByteArray) (c : Nat) : (bytesRow s c).toList = bts s ++ List.replicate (c - s.size) (.int .u8 0) := by
  unfold bytesRow bts
  simp
theorem run_appendB {t tx e B : Nat} {ty : TypeId} {zs : List Value} {u : Option Addr × Nat} {s r : ByteArray} [Slc prog t e 1] [Str prog tx] [Zer prog e zs] [Byt prog e B] (hzl : zs.length = 1) {w : World} (hs : Sat σ w (sep (OwnB e u s) (P)))
    (h63 : s.size + r.size ≤ maxLen) (hB : (s.size + r.size) * B ≤ 140737488355328) :
    ∃ u' w', (Builtin.append_ #[t, tx] ty #[.slice u.1 s.size u.2, .string r]).run prog w = .ok (.slice u'.1 (s ++ r).size u'.2) w' ∧ Sat σ w' (sep (OwnB e u' (s ++ r)) (P)) := by
  rcases sat_ownB hs with h | ⟨b, c, rfl, hc1, hc2, h⟩
  · obtain ⟨A, c, w', h1, h2⟩ := run_appendS (prog := prog) (t := t) (tx := tx) (ty := ty) hzl h h63 hB
    refine ⟨(A, c), w', by rw [ByteArray.size_append]; exact h1, ?_⟩
    rw [← bts_append, ← ByteArray.size_append] at h2
    exact h2.ent (Ent.frame (OwnB.own (x := (A, c))) P)
  · obtain ⟨ht, i, hi, hsz⟩ := Slc.spec (prog := prog) t e 1
    have htx := Str.spec (prog := prog) tx
    obtain ⟨i', z, hi', hz, hzc⟩ := Zer.spec (prog := prog) e zs
    obtain rfl : i = i' := Option.some.inj (hi.symm.trans hi')
    obtain ⟨i', hi'', hb⟩ := Byt.spec (prog := prog) e B
    obtain rfl : i = i' := Option.some.inj (hi.symm.trans hi'')
    have hl : (bts r).length = r.size := bts_len r
    have hls : (bts s).length = s.size := bts_len s
    have hzsz : z.cells.size = 1 := by rw [← Array.length_toList, hzc, hzl]
    have hblk := h.blk
    have hrl := bytesRow_list s c
    have hrs : (bytesRow s c).size = c := by rw [← Array.length_toList, hrl, List.length_append, hls, List.length_replicate]; omega
    by_cases hroom : s.size + r.size ≤ c
    · have hfc : (Builtin.firstCells 1 r.size (.string r)).run prog w = .ok (bts r).toArray w := firstCells_string (P := prog) r w
      have hst := run_storeCells_atG prog b s.size e _ (bts r) 0 (bytesRow s c) w hblk (Nat.le_refl _) (by rw [hrs, hl]; omega) (bts_one r)
      simp only [Nat.add_zero] at hst
      have e2 : ((bytesRow s c).toList.take s.size ++ bts r ++ (bytesRow s c).toList.drop (s.size + (bts r).length)).toArray = bytesRow (s ++ r) c := by
        apply Array.toList_inj.1
        rw [hrl, bytesRow_list (s ++ r), List.take_left' hls, hl, bts_append, ByteArray.size_append]
        simp only [List.append_assoc]
        congr 2
        rw [← List.drop_drop, List.drop_left' hls, List.drop_replicate]
        congr 1
        omega
      rw [e2] at hst
      have hst' : (storeCells ((ad b 0).add (s.size * 1)) (bts r) 0).run prog w = .ok () (w.setRow b (bytesRow (s ++ r) c)) := by
        rw [ad_add, Nat.zero_add, Nat.mul_one]; exact hst
      have hrs' : (bytesRow (s ++ r) c).size = c := by rw [← Array.length_toList, bytesRow_list, List.length_append, bts_len, List.length_replicate, ByteArray.size_append]; omega
      refine ⟨(some (ad b 0), c), w.setRow b (bytesRow (s ++ r) c), ?_, ?_⟩
      · simp only [Builtin.append_, List.getElem?_toArray, List.getElem?_cons_zero, List.getElem?_cons_succ, Sem.run_bind, run_und' ht, run_und' htx, Result.andThen_ok, run_sizeOf' hi, Sem.run_pure, Builtin.lenOf, hsz, hroom, if_true, hfc, hst', Sem.run_ite, Bool.false_eq_true, if_false, Bool.not_false, ByteArray.size_append]
      · have h5 : Sat σ (w.setRow b (bytesRow (s ++ r) c)) (sep (SLA.byb b (s ++ r) c e) (P)) := by
          refine h.update (w' := w.setRow b (bytesRow (s ++ r) c)) rfl rfl rfl ?_ (fun k hk => setRow_other w b k _ hk)
          rw [setRow_heap w b _ _ e _ hblk, hrs, hrs']
        exact h5.ent (Ent.frame (OwnB.byb (by rw [ByteArray.size_append]; exact hroom) hc2) P)
    · have hold : ∀ j u, (bts s)[j]? = some u → w.cell? ((ad b 0).add j) = some u := fun j u hj => by
        have hjl : j < s.size := by
          rcases Nat.lt_or_ge j s.size with h | h
          · exact h
          · rw [List.getElem?_eq_none (by rw [hls]; exact h)] at hj; cases hj
        rw [bts_get s j hjl] at hj
        cases hj
        rw [ad_add, Nat.zero_add]
        exact sat_byb h hjl
      have hsrc : Go.Src prog i.size tx (.string r) r.size (bts r) w := by rw [hsz]; exact Go.Src.ofString w htx r
      have hr' := run_append_grow_src (P := prog) w t tx ty e i z ht hi hz (some (ad b 0)) s.size c (bts s) (by
        have h5 := run_firstCells_some (P := prog) w.drew i.size s.size (ad b 0) s.size c (bts s) (by rw [hls, hsz, Nat.mul_one]) (fun j u hj => by simpa using hold j u hj)
        exact h5) (.string r) r.size (bts r) hsrc (by omega) (by simp only [maxLen] at h63; omega) (growslice_fits (by omega) (by rw [hb]; exact hB))
      have hge := grownCap_ge w (s.size + r.size) c e
      have hle := grownCap_le_maxLen w (s.size + r.size) c e h63
      refine ⟨(some ⟨w.heap.size, 0, none⟩, grownCap w (s.size + r.size) c e), _, by rw [ByteArray.size_append]; exact hr', ?_⟩
      have h2 := h.drop.drew.alloc (.cells ((bts s ++ bts r).toArray ++ Builtin.zeroCells z.cells (grownCap w (s.size + r.size) c e - (s.size + r.size))) e)
      have e1 : ((bts s ++ bts r).toArray ++ Builtin.zeroCells z.cells (grownCap w (s.size + r.size) c e - (s.size + r.size))) = ([] ++ (bts s ++ bts r) ++ (Builtin.zeroCells z.cells (grownCap w (s.size + r.size) c e - (s.size + r.size))).toList).toArray := by
        apply Array.toList_inj.1; simp
      rw [e1] at h2 ⊢
      refine h2.ent (Ent.frame (Ent.trans (Own.mk (v := .slice (some ⟨w.heap.size, 0, none⟩) (s.size + r.size) (grownCap w (s.size + r.size) c e)) (len := s.size + r.size) (m := 1) (cap := grownCap w (s.size + r.size) c e) rfl hge hle (by rw [List.length_append, hls, hl, Nat.mul_one]) ?_) ?_) P)
      · rw [Array.length_toList, size_zeroCells, hzsz]
        exact Nat.le_refl _
      · rw [← bts_append, ← ByteArray.size_append]
        exact OwnB.own (x := (some ⟨w.heap.size, 0, none⟩, _))
theorem opx_appendB {d : Nat} {x y : Operand} {t tx e B : Nat} {ty : TypeId} {pos : String} {aft : Array Edge} {g : Option (Nat × Bool)} {zs : List Value} {u : Option Addr × Nat} {s r : ByteArray} {k : Nat} [Slc prog t e 1] [Str prog tx] [Zer prog e zs] [Byt prog e B] (hx : ev E x = some (.slice u.1 k u.2)) (hy : ev E y = some (.string r)) [hT : FOwnB P e u s R] (hk : k = s.size)
    (hzl : zs.length = 1) (h63 : s.size + r.size ≤ maxLen) (hB : (s.size + r.size) * B ≤ 140737488355328) (hd : Nat.blt d n = true) :
    OpX prog σ n E P ⟨some d, .call ⟨.builtin .append, #[x, y], #[t, tx]⟩, ty, pos, aft, g⟩ (fun _ : Option Addr × Nat => True) (fun u' => (d, .slice u'.1 (s ++ r).size u'.2) :: E) (fun u' => (sep (OwnB e u' (s ++ r)) (R))) := by
  subst hk
  refine OpX.of_run rfl hd fun a w ha hw => ?_
  rw [hT.eq] at hw
  obtain ⟨u', w', hr, hs'⟩ := run_appendB (prog := prog) (t := t) (tx := tx) (ty := ty) hzl hw h63 hB
  refine ⟨u', w', trivial, ?_, hs'⟩
  simp only [execOp, resolve, List.map_toArray, List.map_cons, List.map_nil, ha.ev hx, ha.ev hy, Sem.run_bind, Sem.run_pure, Result.andThen_ok, invoke, builtin, hr]
/-- A string made bytes: bytes of one's own. -/
theorem opx_s2bB {d : Nat} {ty : TypeId} {pos : String} {aft : Array Edge} {g : Option (Nat × Bool)} {x : Operand} {s : ByteArray} {src dst e : TypeId} [Str prog src] [Slc prog dst e 1] [IntT prog e .u8] (hx : ev E x = some (.string s)) (hs : s.size ≤ maxLen) (hd : Nat.blt d n = true) :
    OpX prog σ n E P ⟨some d, .convert src dst x, ty, pos, aft, g⟩ (fun _ : Option Addr × Nat => True) (fun r => (d, .slice r.1 s.size r.2) :: E) (fun r => (sep (OwnB e r s) (P))) := by
  refine OpX.of_run rfl hd fun a w ha hw => ?_
  have h1 := (Slc.spec (prog := prog) dst e 1).1
  have h2 := IntT.spec (prog := prog) e .u8
  have h3 := Str.spec (prog := prog) src
  refine ⟨(some (ad w.heap.size 0), grownCap w s.size 0 e), _, trivial, ?_, (show Sat σ _ (sep (SLA.byb w.heap.size s (grownCap w s.size 0 e) e) (P)) from hw.drew.alloc _).ent (Ent.frame (OwnB.byb (grownCap_ge w s.size 0 e) (grownCap_le_maxLen w s.size 0 e hs)) P)⟩
  simp only [execOp, ha.ev hx, Sem.run_bind, run_bytes_of_string (P := prog) w src dst e s h3 h1 h2, Sem.run_pure, Result.andThen_ok]
section
variable {ty : TypeId} {pos : String} {aft : Array Edge} {g : Option (Nat × Bool)} {x y : Operand} {t t' : TypeId}
/-- An empty slice that is not nil. -/
theorem opx_buildSlice0 {d e m : Nat} [Slc prog t e m] (hd : Nat.blt d n = true) :
    OpX prog σ n E P ⟨some d, .buildSlice t 0 #[], ty, pos, aft, g⟩ (fun _ : Nat => True) (fun b => (d, .slice (some (ad b 0)) 0 0) :: E) (fun b => (sep (Own e m (.slice (some (ad b 0)) 0 0) 0 []) (P))) := by
  refine OpX.of_run rfl hd fun a w ha hs => ?_
  obtain ⟨hu, i, hi, hsz⟩ := Slc.spec (prog := prog) t e m
  have hsz' : (sizeOf e).run prog w = .ok m w := by rw [run_sizeOf' hi, hsz]
  refine ⟨w.heap.size, w.alloc (.cells #[] e), trivial, ?_, (show Sat σ _ (sep (cel w.heap.size [] e) (P)) from hs.alloc _).ent (Ent.frame (Own.lit (by simp) (by unfold maxLen; decide)) P)⟩
  simp only [execOp, Instr.buildSlice, Sem.run_bind, run_und' hu, Result.andThen_ok, hsz', Nat.zero_mul, Sem.run_ite, Sem.run_pure, if_true, Nat.not_lt_zero, if_false, List.map_toArray, List.map_nil]
  simp [Instr.fill, newRow]
  rw [show Array.range 0 = #[] from rfl]
  simp
theorem opv_eqlNilL {d : Option Tmp} {A : Option Addr} {len c e m : Nat} [Slc prog t e m] (hx : ev E x = some (.slice A len c)) (hy : ev E y = some (.slice none 0 0)) : OpV prog σ n E P ⟨d, .binOp .eql t x y t', ty, pos, aft, g⟩ (.bool A.isNone) :=
  fun _ w ha _ => by
    obtain ⟨hu, _⟩ := Slc.spec (prog := prog) t e m
    have h1 : (Op.equal t (.slice A len c) (.slice none 0 0)).run prog w = .ok A.isNone w := by
      show (Op.equalIn (9999 + 1) t (.slice A len c) (.slice none 0 0)).run prog w = _
      generalize 9999 = dep
      unfold Op.equalIn
      rw [Sem.run_bind, run_und' hu, Result.andThen_ok]
      cases A <;> rfl
    simp only [execOp, ha.ev hx, ha.ev hy]
    rw [show eqGuard .eql t x y (.slice A len c) (.slice none 0 0) = pure () from rfl, show binOp .eql t (.slice A len c) (.slice none 0 0) = (do pure (.bool (← Op.equal t (.slice A len c) (.slice none 0 0)))) from by cases A <;> rfl]
    simp [h1]
end
/-- A literal of a slice of two elements, of any number of cells. -/
theorem opx_buildSlice2 {d e m : Nat} {ty : TypeId} {pos : String} {aft : Array Edge} {g : Option (Nat × Bool)} {x y : Operand} {t : TypeId} {zs l1 l2 : List Value} {v u : Value} [Slc prog t e m] [Zer prog e zs] (hx : ev E x = some v) (hy : ev E y = some u) [hc1 : Cel v l1] [hc2 : Cel u l2] (hl1 : l1.length = m) (hl2 : l2.length = m) (hm : m ≤ 8388608) (h0 : m ≠ 0) (hd : Nat.blt d n = true) :
    OpX prog σ n E P ⟨some d, .buildSlice t 2 #[(0, x), (1, y)], ty, pos, aft, g⟩ (fun _ : Nat => True) (fun b => (d, .slice (some (ad b 0)) 2 2) :: E) (fun b => (sep (cel b (l1 ++ l2) e) (P))) := by
  refine OpX.of_run rfl hd fun a w ha hs => ?_
  obtain ⟨hu, i, hi, hsz⟩ := Slc.spec (prog := prog) t e m
  obtain ⟨i', z, h1', h2, h3⟩ := Zer.spec (prog := prog) e zs
  refine ⟨w.heap.size, w.alloc (.cells (l1 ++ l2).toArray e), trivial, ?_, hs.alloc _⟩
  have hf : ∀ zc : Array Value, Instr.fill (fun i => some (i * m, m)) ((Array.range (2 * m)).map (zc[· % zc.size]!)) [(0, v), (1, u)] = some (l1 ++ l2).toArray := fun zc => by
    have hlen : (((Array.range (2 * m)).map (zc[· % zc.size]!)).toList).length = 2 * m := by simp
    generalize hq : ((Array.range (2 * m)).map (zc[· % zc.size]!)).toList = q at hlen
    have h1 := fill_cons (place := fun i => some (i * m, m)) (l := q) (i := 0) (v := v) (ps := [(1, u)]) (o := 0) (m := m) (vs := l1) (by simp) hc1.c hl1 (by omega)
    have e1 : q.take 0 ++ l1 ++ q.drop (0 + m) = l1 ++ q.drop m := by simp
    rw [e1] at h1
    have h2 := fill_cons (place := fun i => some (i * m, m)) (l := l1 ++ q.drop m) (i := 1) (v := u) (ps := []) (o := m) (m := m) (vs := l2) (by simp) hc2.c hl2 (by rw [List.length_append, List.length_drop]; omega)
    have e2 : (l1 ++ q.drop m).take m ++ l2 ++ (l1 ++ q.drop m).drop (m + m) = l1 ++ l2 := by
      rw [List.take_left' hl1, ← List.drop_drop, List.drop_left' hl1, List.drop_drop, List.drop_of_length_le (by omega), List.append_nil]
    rw [e2] at h2
    rw [← hq, Array.toArray_toList] at h1
    rw [h1, hq, h2, Instr.fill]
  have hsz' : (sizeOf e).run prog w = .ok m w := by rw [run_sizeOf' hi, hsz]
  have hle : ¬ (2 * m > 2 ^ 24) := by omega
  have h0' : ¬ (2 * m = 0) := by omega
  simp only [execOp, Instr.buildSlice, Sem.run_bind, run_und' hu, Result.andThen_ok, hsz', hle, if_false, Sem.run_ite, Sem.run_pure, h0', zeroValue, run_typeInfo' h1', h2, List.map_toArray, List.map_cons, List.map_nil, ha.ev hx, ha.ev hy]
  rw [hf]
  simp only [Sem.run_bind, newRow, run_newObj, Result.andThen_ok, Sem.run_pure]
  rfl
end Go.SLA
