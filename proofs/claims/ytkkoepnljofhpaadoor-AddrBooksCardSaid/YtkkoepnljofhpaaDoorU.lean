/- What strings.Builder needs: a pointer made unsafe and back, a function that is answered in place, bytes from the front of a block, and a string made of them in place. -/
import Derived.Test.YtkkoepnljofhpaaDoorR
import Derived.Lib.Builder
import Derived.Lib.UnsafeStr
import Derived.Laws.Externs
set_option linter.unusedVariables false
set_option linter.unusedSimpArgs false
namespace Go.SLA
variable {prog : Program} {σ : World} {n : Nat} {E : Env} {P R : HProp}
theorem shape_cel {w : World} {b : Nat} {l : List Value} {e : TypeId} (h : Sat σ w (sep (cel b l e) (R))) : w.shape? b = some (e, l.length) := by
  have hb := h.blk
  unfold World.shape?
  rw [hb]
  simp
/-- Pointers to a struct, and back by way of an unsafe one. -/
def upB (prog : Program) (s d t : TypeId) (m : Nat) : Bool := undB prog s (fun | .pointer t' => Nat.beq t' t | _ => false) && undB prog d (fun | .unsafePointer => true | _ => false) && infB prog t (fun i => Nat.beq i.size m && !Nat.beq m 0) && liesAt prog prog.depth t (m / prog.cellsOf t) 0 t 1
class UpT (prog : Program) (s : TypeId) (d t : outParam TypeId) (m : outParam Nat) : Prop where
  b : upB prog s d t m = true
theorem UpT.spec {s d t : TypeId} {m : Nat} (h : UpT prog s d t m) : prog.underlying s = some (.pointer t) ∧ prog.underlying d = some .unsafePointer ∧ (∃ i, prog.info? t = some i ∧ i.size = m ∧ m ≠ 0) ∧ liesAt prog prog.depth t (m / prog.cellsOf t) 0 t 1 = true := by
  have := h.b
  unfold upB at this
  simp only [Bool.and_eq_true] at this
  obtain ⟨⟨⟨h1, h2⟩, h3⟩, h4⟩ := this
  obtain ⟨d1, g1, k1⟩ := undB_spec h1
  obtain ⟨d2, g2, k2⟩ := undB_spec h2
  obtain ⟨i, g3, k3⟩ := infB_spec h3
  refine ⟨?_, ?_, ⟨i, g3, ?_⟩, h4⟩
  · split at k1
    · rw [g1, Nat.eq_of_beq_eq_true k1]
    · cases k1
  · split at k2
    · exact g2
    · cases k2
  · simp only [Bool.and_eq_true, Bool.not_eq_true'] at k3
    exact ⟨Nat.eq_of_beq_eq_true k3.1, fun e => by rw [e] at k3; cases k3.2⟩
section
variable {d : Option Tmp} {ty : TypeId} {pos : String} {aft : Array Edge} {g : Option (Nat × Bool)} {x y : Operand} {s u t : TypeId} {m b : Nat} {l : List Value}
theorem opv_toUnsafe [hu : UpT prog s u t m] (hx : ev E x = some (.pointer (some (ad b 0)))) [hk : Look P b l t R] (hl : l.length = m) : OpV prog σ n E P ⟨d, .convert s u x, ty, pos, aft, g⟩ (.pointer (some (ad b 0))) := fun _ w ha hw => by
  rw [hk.eq] at hw
  obtain ⟨h1, h2, ⟨i, h3, h4, h5⟩, h6⟩ := hu.spec
  have := Lib.run_to_unsafe (P := prog) (w := w) (ad b 0) h1 h2 h3 (by rw [h4]; exact h5) (shape_cel hw) (by show 0 < l.length; omega)
  simp only [execOp, ha.ev hx, Sem.run_bind, this, Result.andThen_ok, Sem.run_pure]
theorem opv_fromUnsafe [hu : UpT prog s u t m] (hx : ev E x = some (.pointer (some (ad b 0)))) [hk : Look P b l t R] (hl : l.length = m) : OpV prog σ n E P ⟨d, .convert u s x, ty, pos, aft, g⟩ (.pointer (some (ad b 0))) := fun _ w ha hw => by
  rw [hk.eq] at hw
  obtain ⟨h1, h2, ⟨i, h3, h4, h5⟩, h6⟩ := hu.spec
  have := Lib.run_from_unsafe (P := prog) (w := w) (ad b 0) h2 h1 h3 (shape_cel hw) (by rw [hl]; exact h6)
  simp only [execOp, ha.ev hx, Sem.run_bind, this, Result.andThen_ok, Sem.run_pure]
theorem opv_neqPtr [hu : UpT prog s u t m] {a : Addr} {t' : TypeId} (hx : ev E x = some (.pointer (some a))) (hy : ev E y = some (.pointer (some a))) : OpV prog σ n E P ⟨d, .binOp .neq s x y t', ty, pos, aft, g⟩ (.bool false) := fun _ w ha _ => by
  obtain ⟨h1, h2, ⟨i, h3, h4, h5⟩, h6⟩ := hu.spec
  have := Lib.run_neq_ptr_same (P := prog) (w := w) a h1 h3
  simp only [execOp, ha.ev hx, ha.ev hy]
  rw [show eqGuard .neq s x y (.pointer (some a)) (.pointer (some a)) = pure () from rfl]
  simp only [Sem.run_bind, Sem.run_pure, Result.andThen_ok, this]
end
/-- abi.NoEscape. -/
class NoEsc (prog : Program) (f : FuncId) : Prop where
  b : ∃ fn, prog.funcs[f]? = some fn ∧ (fn.name == "runtime.NumGoroutine") = false ∧ fn.body.isNone = true ∧ Extern.findNext fn = none ∧ Extern.find fn = some Extern.AbiNoEscape.same
theorem opx_noEscape {d : Nat} {ty : TypeId} {pos : String} {aft : Array Edge} {g : Option (Nat × Bool)} {x : Operand} {tys : Array TypeId} {f : FuncId} {v : Value} [hf : NoEsc prog f] (hx : evl E [x] = some [v]) (hd : Nat.blt d n = true) :
    OpX prog σ n E P ⟨some d, .call ⟨.value (.func f), #[x], tys⟩, ty, pos, aft, g⟩ (fun _ : Unit => True) (fun _ => (d, v) :: E) (fun _ => P) := by
  refine OpX.of_run rfl hd fun a w ha hw => ⟨(), w, trivial, ?_, hw⟩
  obtain ⟨fn, h1, h2, h3, h4, h5⟩ := hf.b
  have hc := run_callFunc_extern (P := prog) h1 h2 h3 h4 h5 #[v] w
  rw [Lib.run_noEscape] at hc
  unfold execOp
  simp only [resolve, Deferred.ofValue, ha.ev (show ev E (.func f) = some (.func (.func f) #[] #[]) from rfl), ha.evls (l := #[x]) hx, Sem.run_bind, Sem.run_pure, Result.andThen_ok, invoke]
  simp [hc]
/-- Bytes from the front of a block of one's own. -/
def OwnZ (e : TypeId) (x : Option Addr × Nat) (s : ByteArray) : HProp := ex fun z : Option (Nat × Nat × List Value) => match z with
  | none => lift (x = (none, 0) ∧ s.size = 0)
  | some (b, c, post) => (sep (lift (x = (some (ad b 0), c) ∧ s.size ≤ c ∧ c ≤ maxLen ∧ c - s.size ≤ post.length)) (cel b (bts s ++ post) e))
theorem OwnZ.nil (e : TypeId) : Ent emp (OwnZ e (none, 0) ByteArray.empty) := Ent.pt fun h hh => ⟨none, ⟨rfl, rfl⟩, hh⟩
theorem sat_ownZ {w : World} {e : TypeId} {x : Option Addr × Nat} {s : ByteArray} (h : Sat σ w (sep (OwnZ e x s) (R))) : (x = (none, 0) ∧ s.size = 0 ∧ Sat σ w R) ∨ ∃ b c post, x = (some (ad b 0), c) ∧ s.size ≤ c ∧ c ≤ maxLen ∧ c - s.size ≤ List.length post ∧ Sat σ w (sep (cel b (bts s ++ post) e) (R)) := by
  obtain ⟨z, hz⟩ := sat_ex.1 h
  cases z with
  | none =>
    obtain ⟨⟨h1, h2⟩, h3⟩ := sat_lift.1 hz
    exact .inl ⟨h1, h2, h3⟩
  | some bc =>
    obtain ⟨b, c, post⟩ := bc
    simp only [sep_assoc] at hz
    obtain ⟨⟨h1, h2, h3, h4⟩, h5⟩ := sat_lift.1 hz
    exact .inr ⟨b, c, post, h1, h2, h3, h4, h5⟩
theorem OwnZ.mk {e : TypeId} {b c : Nat} {s : ByteArray} {post : List Value} (h1 : s.size ≤ c) (h2 : c ≤ maxLen) (h3 : c - s.size ≤ post.length) : Ent (cel b (bts s ++ post) e) (OwnZ e (some (ad b 0), c) s) :=
  Ent.trans (Ent.lift (p := ((some (ad b 0), c) : Option Addr × Nat) = (some (ad b 0), c) ∧ s.size ≤ c ∧ c ≤ maxLen ∧ c - s.size ≤ post.length) ⟨rfl, h1, h2, h3⟩) (Ent.pt fun h hh => ⟨some (b, c, post), hh⟩)
class FOwnZ (P : HProp) (e : TypeId) (x : Option Addr × Nat) (s : outParam ByteArray) (R : outParam HProp) : Prop where
  eq : P = (sep (OwnZ e x s) (R))
instance (priority := 100) {A P R : HProp} {e : TypeId} {x : Option Addr × Nat} {s : ByteArray} [h : FOwnZ P e x s R] : FOwnZ (sep (A) (P)) e x s (sep (A) (R)) := ⟨by rw [h.eq, sep_left_comm]⟩
instance (priority := 150) {A B P R : HProp} {e : TypeId} {x : Option Addr × Nat} {s : ByteArray} [h : FOwnZ (sep (A) (sep (B) (P))) e x s R] : FOwnZ (sep ((sep (A) (B))) (P)) e x s R := ⟨by rw [sep_assoc]; exact h.eq⟩
instance (priority := 200) {e : TypeId} {x : Option Addr × Nat} {s : ByteArray} {R : HProp} : FOwnZ (sep (OwnZ e x s) (R)) e x s R := ⟨rfl⟩
instance (priority := 90) {e : TypeId} {x : Option Addr × Nat} {s : ByteArray} : FOwnZ (OwnZ e x s) e x s emp := ⟨(sep_emp _).symm⟩
theorem empty_bts {s : ByteArray} (h : s.size = 0) : bts s = [] := List.eq_nil_of_length_eq_zero (by rw [bts_len, h])
theorem run_appendZ {t tx e B : Nat} {ty : TypeId} {zs : List Value} {u : Option Addr × Nat} {s r : ByteArray} [Slc prog t e 1] [Str prog tx] [Zer prog e zs] [Byt prog e B] (hzl : zs.length = 1) {w : World} (hs : Sat σ w (sep (OwnZ e u s) (P)))
    (h63 : s.size + r.size ≤ maxLen) (hB : (s.size + r.size) * B ≤ 140737488355328) :
    ∃ u' w', (Builtin.append_ #[t, tx] ty #[.slice u.1 s.size u.2, .string r]).run prog w = .ok (.slice u'.1 (s ++ r).size u'.2) w' ∧ Sat σ w' (sep (OwnZ e u' (s ++ r)) (P)) := by
  obtain ⟨ht, i, hi, hsz⟩ := Slc.spec (prog := prog) t e 1
  have htx := Str.spec (prog := prog) tx
  obtain ⟨i', z, hi', hz, hzc⟩ := Zer.spec (prog := prog) e zs
  obtain rfl : i = i' := Option.some.inj (hi.symm.trans hi')
  obtain ⟨i', hi'', hb⟩ := Byt.spec (prog := prog) e B
  obtain rfl : i = i' := Option.some.inj (hi.symm.trans hi'')
  have hl : (bts r).length = r.size := bts_len r
  have hls : (bts s).length = s.size := bts_len s
  have hzsz : z.cells.size = 1 := by rw [← Array.length_toList, hzc, hzl]
  have hsmall : s.size + r.size ≤ 9223372036854775807 := by simp only [maxLen] at h63; omega
  have hsrc : Go.Src prog i.size tx (.string r) r.size (bts r) w := by rw [hsz]; exact Go.Src.ofString w htx r
  have fresh : ∀ old : Nat, Sat σ w P → Sat σ (w.drew.alloc (.cells ((bts s ++ bts r).toArray ++ Builtin.zeroCells z.cells (grownCap w (s.size + r.size) old e - (s.size + r.size))) e))
      (sep (OwnZ e (some (ad w.heap.size 0), grownCap w (s.size + r.size) old e) (s ++ r)) (P)) := by
    intro old hP
    have hge := grownCap_ge w (s.size + r.size) old e
    have hle := grownCap_le_maxLen w (s.size + r.size) old e h63
    have h2 := hP.drew.alloc (.cells ((bts s ++ bts r).toArray ++ Builtin.zeroCells z.cells (grownCap w (s.size + r.size) old e - (s.size + r.size))) e)
    have e1 : ((bts s ++ bts r).toArray ++ Builtin.zeroCells z.cells (grownCap w (s.size + r.size) old e - (s.size + r.size))) = (bts (s ++ r) ++ (Builtin.zeroCells z.cells (grownCap w (s.size + r.size) old e - (s.size + r.size))).toList).toArray := by
      apply Array.toList_inj.1; rw [bts_append]; simp
    rw [e1] at h2 ⊢
    refine h2.ent (Ent.frame (OwnZ.mk (by rw [ByteArray.size_append]; exact hge) hle ?_) P)
    rw [Array.length_toList, size_zeroCells, hzsz, ByteArray.size_append]
    omega
  rcases sat_ownZ hs with ⟨rfl, h0, hP⟩ | ⟨b, c, post, rfl, hc1, hc2, hc3, hP⟩
  · by_cases hk : r.size = 0
    · have he := size_zero hk
      have he2 := size_zero h0
      subst he he2
      refine ⟨(none, 0), w, ?_, hs.ent (Ent.of (by simp))⟩
      have hfc := firstCells_string (P := prog) ByteArray.empty w
      simp only [Builtin.append_, List.getElem?_toArray, List.getElem?_cons_zero, List.getElem?_cons_succ, Sem.run_bind, run_und' ht, run_und' htx, Result.andThen_ok, run_sizeOf' hi, Sem.run_pure, Builtin.lenOf, hsz, Sem.run_ite, Bool.false_eq_true, if_false, Bool.not_false, if_true, ByteArray.size_empty, Nat.add_zero, Nat.le_refl] at hfc ⊢
      rw [hfc]
      rfl
    · have hb0 := empty_bts h0
      have hr' := run_append_grow_src (P := prog) w t tx ty e i z ht hi hz none 0 0 [] (by simp [Builtin.firstCells]) (.string r) r.size (bts r) hsrc (by omega) (by omega) (by
        have := nextslicecap_zero (need := r.size) (by omega)
        rw [Nat.zero_add, this, hb]
        rw [h0] at hB
        simp only [Nat.zero_add] at hB
        omega)
      have h3 := fresh 0 hP
      rw [hb0, h0] at h3
      rw [h0]
      refine ⟨(some (ad w.heap.size 0), grownCap w (0 + r.size) 0 e), _, ?_, h3⟩
      rw [ByteArray.size_append, h0]
      exact hr'
  · have hblk := hP.blk
    have hold : ∀ j u, (bts s)[j]? = some u → w.cell? ((ad b 0).add j) = some u := fun j u hj => by
      have hjl : j < (bts s).length := by
        rcases Nat.lt_or_ge j (bts s).length with h | h
        · exact h
        · rw [List.getElem?_eq_none h] at hj; cases hj
      rw [ad_add, Nat.zero_add, cell_of_cel hP, List.getElem?_append_left hjl, hj]
    by_cases hroom : s.size + r.size ≤ c
    · have hfc : (Builtin.firstCells 1 r.size (.string r)).run prog w = .ok (bts r).toArray w := firstCells_string (P := prog) r w
      have hst := run_storeCells_at prog b s.size e (bts r) 0 (bts s ++ post).toArray w hblk (by rw [List.size_toArray, List.length_append, hls, hl]; omega) (bts_one r)
      simp only [Nat.add_zero] at hst
      have e2 : (bts s ++ post).toArray.toList.take s.size ++ bts r ++ (bts s ++ post).toArray.toList.drop (s.size + (bts r).length) = bts (s ++ r) ++ post.drop r.size := by
        show (bts s ++ post).take s.size ++ bts r ++ (bts s ++ post).drop (s.size + (bts r).length) = _
        rw [List.take_left' hls, ← List.drop_drop, List.drop_left' hls, hl, bts_append]
      rw [e2] at hst
      have hst' : (storeCells ((ad b 0).add (s.size * 1)) (bts r) 0).run prog w = .ok () (w.setRow b (bts (s ++ r) ++ post.drop r.size).toArray) := by
        rw [ad_add, Nat.zero_add, Nat.mul_one]; exact hst
      refine ⟨(some (ad b 0), c), w.setRow b (bts (s ++ r) ++ post.drop r.size).toArray, ?_, ?_⟩
      · simp only [Builtin.append_, List.getElem?_toArray, List.getElem?_cons_zero, List.getElem?_cons_succ, Sem.run_bind, run_und' ht, run_und' htx, Result.andThen_ok, run_sizeOf' hi, Sem.run_pure, Builtin.lenOf, hsz, hroom, if_true, hfc, hst', Sem.run_ite, Bool.false_eq_true, if_false, Bool.not_false, ByteArray.size_append]
      · exact (setRow_sat (l' := bts (s ++ r) ++ post.drop r.size) hP).ent (Ent.frame (OwnZ.mk (by rw [ByteArray.size_append]; exact hroom) hc2 (by rw [ByteArray.size_append, List.length_drop]; omega)) P)
    · have hr' := run_append_grow_src (P := prog) w t tx ty e i z ht hi hz (some (ad b 0)) s.size c (bts s) (by
        have h5 := run_firstCells_some (P := prog) w.drew i.size s.size (ad b 0) s.size c (bts s) (by rw [hls, hsz, Nat.mul_one]) (fun j u hj => by simpa using hold j u hj)
        exact h5) (.string r) r.size (bts r) hsrc (by omega) (by omega) (growslice_fits (by omega) (by rw [hb]; exact hB))
      refine ⟨(some (ad w.heap.size 0), grownCap w (s.size + r.size) c e), _, ?_, fresh c hP.drop⟩
      rw [ByteArray.size_append]
      exact hr'
theorem opx_appendZ {d : Nat} {x y : Operand} {t tx e B : Nat} {ty : TypeId} {pos : String} {aft : Array Edge} {g : Option (Nat × Bool)} {zs : List Value} {u : Option Addr × Nat} {s r : ByteArray} {k : Nat} [Slc prog t e 1] [Str prog tx] [Zer prog e zs] [Byt prog e B] (hx : ev E x = some (.slice u.1 k u.2)) (hy : ev E y = some (.string r)) [hT : FOwnZ P e u s R] (hk : k = s.size)
    (hzl : zs.length = 1) (h63 : s.size + r.size ≤ maxLen) (hB : (s.size + r.size) * B ≤ 140737488355328) (hd : Nat.blt d n = true) :
    OpX prog σ n E P ⟨some d, .call ⟨.builtin .append, #[x, y], #[t, tx]⟩, ty, pos, aft, g⟩ (fun _ : Option Addr × Nat => True) (fun u' => (d, .slice u'.1 (s ++ r).size u'.2) :: E) (fun u' => (sep (OwnZ e u' (s ++ r)) (R))) := by
  subst hk
  refine OpX.of_run rfl hd fun a w ha hw => ?_
  rw [hT.eq] at hw
  obtain ⟨u', w', hr, hs'⟩ := run_appendZ (prog := prog) (t := t) (tx := tx) (ty := ty) hzl hw h63 hB
  refine ⟨u', w', trivial, ?_, hs'⟩
  simp only [execOp, resolve, List.map_toArray, List.map_cons, List.map_nil, ha.ev hx, ha.ev hy, Sem.run_bind, Sem.run_pure, Result.andThen_ok, invoke, builtin, hr]
theorem opx_sliceData {d : Nat} {ty : TypeId} {pos : String} {aft : Array Edge} {g : Option (Nat × Bool)} {x : Operand} {t e : TypeId} {u : Option Addr × Nat} {s : ByteArray} {k : Nat} [PtrT prog ty] (hx : ev E x = some (.slice u.1 k u.2)) [hT : FOwnZ P e u s R] (hd : Nat.blt d n = true) :
    OpX prog σ n E P ⟨some d, .call ⟨.builtin .unsafeSliceData, #[x], #[t]⟩, ty, pos, aft, g⟩ (fun q : Option Addr => 0 < s.size → q = u.1) (fun q => (d, .pointer q) :: E) (fun _ => P) := by
  refine OpX.of_run rfl hd fun a w ha hw => ?_
  obtain ⟨e', he'⟩ := PtrT.spec (prog := prog) ty
  have hw' := hw
  rw [hT.eq] at hw'
  have go : ∀ q w', (Builtin.unsafeSliceData_ #[t] ty #[.slice u.1 k u.2]).run prog w = .ok (.pointer q) w' → (0 < s.size → q = u.1) → Sat σ w' P → ∃ (x_1 : Option Addr) (w' : World), (0 < s.size → x_1 = u.1) ∧ (execOp a.eval ⟨some d, .call ⟨.builtin .unsafeSliceData, #[x], #[t]⟩, ty, pos, aft, g⟩).run prog w = .ok (.value (.pointer x_1)) w' ∧ Sat σ w' P := fun q w' h1 h2 h3 =>
    ⟨q, w', h2, by simp only [execOp, resolve, List.map_toArray, List.map_cons, List.map_nil, ha.ev hx, Sem.run_bind, Sem.run_pure, Result.andThen_ok, invoke, builtin, h1], h3⟩
  rcases sat_ownZ hw' with ⟨rfl, h0, _⟩ | ⟨b, c, post, rfl, hc1, hc2, hc3, hP⟩
  · exact go none w (Lib.run_unsafeSliceData_nil (P := prog) w #[t] ty k 0) (fun _ => rfl) hw
  · by_cases hc : c = 0
    · subst hc
      have h1 := Lib.run_unsafeSliceData_zero (P := prog) (w := w) #[t] ty e' he' (ad b 0) k _ (shape_cel hP)
      exact go _ _ h1 (fun h => by omega) (hw.alloc _).drop
    · exact go _ _ (Lib.run_unsafeSliceData_row (P := prog) (w := w) #[t] ty (ad b 0) k c hc) (fun _ => rfl) hw
def peB (prog : Program) (t e : TypeId) : Bool := undB prog t (fun | .pointer e' => Nat.beq e' e | _ => false) && Nat.beq (prog.cellsOf e) 1
class PtrE (prog : Program) (t : TypeId) (e : outParam TypeId) : Prop where
  b : peB prog t e = true
theorem PtrE.spec {t e : TypeId} (h : PtrE prog t e) : prog.underlying t = some (.pointer e) ∧ prog.cellsOf e = 1 := by
  have := h.b
  unfold peB at this
  simp only [Bool.and_eq_true] at this
  obtain ⟨d1, g1, k1⟩ := undB_spec this.1
  refine ⟨?_, Nat.eq_of_beq_eq_true this.2⟩
  split at k1
  · rw [g1, Nat.eq_of_beq_eq_true k1]
  · cases k1
theorem opx_unsafeString {d : Nat} {ty : TypeId} {pos : String} {aft : Array Edge} {g : Option (Nat × Bool)} {x y : Operand} {t ti e : TypeId} {u : Option Addr × Nat} {s : ByteArray} {q : Option Addr} {k : Int} [hpe : PtrE prog t e] (hx : ev E x = some (.pointer q)) (hy : ev E y = some (.int .i64 k)) [hT : FOwnZ P e u s R] (hk : k = s.size) (hq : 0 < s.size → q = u.1) (hd : Nat.blt d n = true) :
    OpX prog σ n E P ⟨some d, .call ⟨.builtin .unsafeString, #[x, y], #[t, ti]⟩, ty, pos, aft, g⟩ (fun _ : Unit => True) (fun _ => (d, .string s) :: E) (fun _ => R) := by
  subst hk
  refine OpX.of_run rfl hd fun a w ha hw => ?_
  rw [hT.eq] at hw
  obtain ⟨h1, h2⟩ := hpe.spec
  have go : ∀ w', (Builtin.unsafeString_ #[t, ti] ty #[.pointer q, .int .i64 s.size]).run prog w = .ok (.string s) w' → Sat σ w' R → ∃ (_ : Unit) (w' : World), True ∧ (execOp a.eval ⟨some d, .call ⟨.builtin .unsafeString, #[x, y], #[t, ti]⟩, ty, pos, aft, g⟩).run prog w = .ok (.value (.string s)) w' ∧ Sat σ w' R := fun w' h1 h3 =>
    ⟨(), w', trivial, by simp only [execOp, resolve, List.map_toArray, List.map_cons, List.map_nil, ha.ev hx, ha.ev hy, Sem.run_bind, Sem.run_pure, Result.andThen_ok, invoke, builtin, h1], h3⟩
  by_cases h0 : s.size = 0
  · have he := size_zero h0
    subst he
    exact go w (Lib.run_unsafeString_none (P := prog) (w := w) t ti ty q) hw.drop
  · rw [hq (by omega)] at hx go
    rcases sat_ownZ hw with ⟨_, h0', _⟩ | ⟨b, c, post, rfl, hc1, hc2, hc3, hP⟩
    · exact absurd h0' h0
    · have hls : (bts s).length = s.size := bts_len s
      have hdl : s.data.toList.length = s.size := Array.length_toList
      have hcell : ∀ j y, s.data.toList[j]? = some y → w.cell? ((⟨b, 0, none⟩ : Addr).add j) = some (.int .u8 y.toNat) := fun j y hj => by
        have hjl : j < s.data.toList.length := by
          rcases Nat.lt_or_ge j s.data.toList.length with h | h
          · exact h
          · rw [List.getElem?_eq_none h] at hj; cases hj
        have hadd : (⟨b, 0, none⟩ : Addr).add j = ad b j := by rw [show (⟨b, 0, none⟩ : Addr) = ad b 0 from rfl, ad_add, Nat.zero_add]
        rw [hadd, cell_of_cel hP, List.getElem?_append_left (by rw [hls]; omega)]
        unfold bts
        rw [List.getElem?_map, hj]
        rfl
      have hsz : s.size ≤ 9223372036854775807 := by unfold maxLen at hc2; omega
      have hr := Lib.run_unsafeString_row (P := prog) (w := w) t ti ty e h1 h2 b (bts s ++ post).length (shape_cel hP) s.data.toList (fun h => h0 (by rw [← hdl, h]; rfl)) (by rw [List.length_append, hls, hdl]; omega) (by rw [hdl]; exact hsz) hcell
      rw [hdl] at hr
      refine go _ (by simpa [ad] using hr) ?_
      have hblk := hP.blk
      have hlt : b < w.heap.size := by
        rcases Nat.lt_or_ge b w.heap.size with hl | hl
        · exact hl
        · rw [Array.getElem?_eq_none hl] at hblk; cases hblk
      refine (hP.update (w' := w.freeze ⟨b, 0, none⟩ s.size) (o' := .cells (bts s ++ post).toArray e (0, 0 + s.size)) ?_ ?_ ?_ ?_ ?_).drop
      · unfold World.freeze; rw [if_neg h0]
      · unfold World.freeze; rw [if_neg h0]
      · unfold World.freeze; rw [if_neg h0]
      · unfold World.freeze
        rw [if_neg h0]
        show (w.heap.modify b _)[b]? = _
        rw [Array.getElem?_modify, if_pos rfl, hblk]
        rfl
      · intro k hk
        unfold World.freeze
        rw [if_neg h0]
        show (w.heap.modify b _)[k]? = _
        rw [Array.getElem?_modify, if_neg (fun e => hk e.symm)]
end Go.SLA
