/- Bytes and strings: the conversions between them, and append of a string's bytes. -/
import Derived.Test.YtkkoepnljofhpaaDoorI
import Derived.Laws.IdiomStrings
import Derived.Deep.AppendSrc
set_option linter.unusedVariables false
set_option linter.unusedSimpArgs false
namespace Go.SLA

/-- A string's bytes, as cells. -/
def bts (s : ByteArray) : List Value := s.data.toList.map fun b => .int .u8 b.toNat
theorem bts_len (s : ByteArray) : (bts s).length = s.size := by unfold bts; rw [List.length_map, Array.length_toList]; rfl
theorem bts_one (s : ByteArray) : ∀ u ∈ bts s, u.oneCell' = true := by
  intro u hu
  unfold bts at hu
  obtain ⟨_, _, rfl⟩ := List.mem_map.1 hu
  rfl
theorem bts_append (s r : ByteArray) : bts (s ++ r) = bts s ++ bts r := by unfold bts; simp
theorem bts_get (s : ByteArray) (i : Nat) (h : i < s.size) : (bts s)[i]? = some (.int .u8 (byt s i)) := by
  have : i < s.data.toList.length := by rw [Array.length_toList]; exact h
  unfold bts byt
  rw [List.getElem?_map, List.getElem?_eq_getElem this, List.getD_eq_getElem?_getD, List.getElem?_eq_getElem this]
  rfl
theorem bts_inj {s r : ByteArray} (h : bts s = bts r) : s = r := by
  unfold bts at h
  have e : s.data.toList = r.data.toList := by
    refine List.map_inj_right ?_ |>.1 h
    intro a b hab
    simp only [Value.int.injEq, true_and] at hab
    exact UInt8.toNat_inj.1 (by omega)
  cases s; cases r
  simp only at e
  rw [Array.toList_inj.1 e]
/-- The string of one byte. -/
def byte1 (n : Nat) : ByteArray := ⟨#[UInt8.ofNat n]⟩
theorem bts_byte1 {n : Nat} (h : n < 256) : bts (byte1 n) = [.int .u8 n] := by
  unfold bts byte1
  simp [Nat.mod_eq_of_lt h]
theorem byte1_size (n : Nat) : (byte1 n).size = 1 := rfl
theorem size_zero {s : ByteArray} (h : s.size = 0) : s = ByteArray.empty := by
  cases s with
  | mk d =>
    have : d = #[] := Array.eq_empty_of_size_eq_zero h
    rw [this]; rfl

variable {prog : Program} {σ : World} {n : Nat} {Q : Exit → Act → World → Prop} {E : Env} {P R : HProp}
/-- Values that are the same. -/
theorem OpV.as {o : Oper} {v v' : Value} (h : OpV prog σ n E P o v) (e : v = v') : OpV prog σ n E P o v' := e ▸ h

section
variable {d : Option Tmp} {ty : TypeId} {pos : String} {aft : Array Edge} {g : Option (Nat × Bool)} {x y : Operand} {t t' : TypeId} {u v : Value} {s : ByteArray}
theorem opv_b2s {src dst e : TypeId} [Slc prog src e 1] [IntT prog e .u8] [Str prog dst] (hx : ev E x = some u) (hs : Src P u s.size (bts s)) : OpV prog σ n E P ⟨d, .convert src dst x, ty, pos, aft, g⟩ (.string s) := fun a w ha hw => by
  have h1 := (Slc.spec (prog := prog) src e 1).1
  have h2 := IntT.spec (prog := prog) e .u8
  have h3 := Str.spec (prog := prog) dst
  rcases hs with ⟨rfl, hz, _⟩ | ⟨b, o, c, rfl, hr⟩
  · have := run_convert_bytes_string w src dst e none 0 0 h1 h2 h3
    simp only [execOp, ha.ev hx, Sem.run_bind, this, Conv.bytesToString, Sem.run_pure, Result.andThen_ok]
    rw [size_zero hz]
  · have := run_convert_bytes_back (P := prog) w src dst e (ad b o) c s.data.toList h1 h2 h3 (fun j hj => by
      rw [ad_add]
      refine hr j _ ?_ σ w hw
      unfold bts
      rw [List.getElem?_map, List.getElem?_eq_getElem hj]
      rfl)
    rw [Array.length_toList] at this
    have this : (convert src dst (.slice (some (ad b o)) s.size c)).run prog w = .ok (.string ⟨s.data.toList.toArray⟩) w := this
    simp only [execOp, ha.ev hx, Sem.run_bind, this, Sem.run_pure, Result.andThen_ok, Array.toArray_toList]
end

section
variable {d : Nat} {ty : TypeId} {pos : String} {aft : Array Edge} {g : Option (Nat × Bool)} {x y : Operand} {s : ByteArray} {v : Value}
/-- The array behind a conversion to bytes. -/
def byb (b : Nat) (s : ByteArray) (c : Nat) (e : TypeId) : HProp := blk b (.cells (bytesRow s c) e ((bytesRow s c).size, (bytesRow s c).size + 1))
theorem opx_s2b {src dst e : TypeId} [Str prog src] [Slc prog dst e 1] [IntT prog e .u8] (hx : ev E x = some (.string s)) (hd : Nat.blt d n = true) :
    OpX prog σ n E P ⟨some d, .convert src dst x, ty, pos, aft, g⟩ (fun _ : Nat × Nat => True) (fun r => (d, .slice (some (ad r.1 0)) s.size r.2) :: E) (fun r => (sep (byb r.1 s r.2 e) (P))) := by
  refine OpX.of_run rfl hd fun a w ha hw => ?_
  have h1 := (Slc.spec (prog := prog) dst e 1).1
  have h2 := IntT.spec (prog := prog) e .u8
  have h3 := Str.spec (prog := prog) src
  refine ⟨(w.heap.size, grownCap w s.size 0 e), _, trivial, ?_, hw.drew.alloc _⟩
  simp only [execOp, ha.ev hx, Sem.run_bind, run_bytes_of_string (P := prog) w src dst e s h3 h1 h2, Sem.run_pure, Result.andThen_ok]
end
theorem sat_byb {w : World} {b c : Nat} {s : ByteArray} {e : TypeId} (h : Sat σ w (sep (byb b s c e) (P))) {j : Nat} (hj : j < s.size) : w.cell? (ad b j) = some (.int .u8 (byt s j)) := by
  have hb := h.blk
  have : j < s.data.toList.length := by rw [Array.length_toList]; exact hj
  have hj' : j < s.data.size := hj
  unfold World.cell?
  simp only [hb, ad]
  simp only [Option.isSome_none, Bool.false_eq_true, if_false]
  unfold bytesRow byt
  rw [Array.getElem?_append_left (by simpa using hj')]
  rw [Array.getElem?_map, Array.getElem?_eq_getElem hj', List.getD_eq_getElem?_getD, List.getElem?_eq_getElem this]
  simp
theorem Rd.byb {b c : Nat} {s : ByteArray} {e : TypeId} [h : Take P (SLA.byb b s c e) R] {j : Nat} (hj : j < s.size) : Rd P b j (.int .u8 (byt s j)) := fun σ w hs => by
  rw [h.eq] at hs
  exact sat_byb hs hj

theorem run_appendS {t tx e B len : Nat} {ty : TypeId} {zs l : List Value} {v : Value} {s : ByteArray} [Slc prog t e 1] [Str prog tx] [Zer prog e zs] [Byt prog e B] (hzl : zs.length = 1) {w : World} (hs : Sat σ w (sep (Own e 1 v len l) (P)))
    (h63 : len + s.size ≤ maxLen) (hB : (len + s.size) * B ≤ 140737488355328) :
    ∃ A c w', (Builtin.append_ #[t, tx] ty #[v, .string s]).run prog w = .ok (.slice A (len + s.size) c) w' ∧ Sat σ w' (sep (Own e 1 (.slice A (len + s.size) c) (len + s.size) (l ++ bts s)) (P)) := by
  suffices hh : ∃ v' w', (Builtin.append_ #[t, tx] ty #[v, .string s]).run prog w = .ok v' w' ∧ Sat σ w' (sep (Own e 1 v' (len + s.size) (l ++ bts s)) (P)) by
    obtain ⟨v', w', h1, h2⟩ := hh
    obtain ⟨A, c, rfl, _⟩ := own_val h2
    exact ⟨A, c, w', h1, h2⟩
  obtain ⟨ht, i, hi, hsz⟩ := Slc.spec (prog := prog) t e 1
  have htx := Str.spec (prog := prog) tx
  obtain ⟨i', z, hi', hz, hzc⟩ := Zer.spec (prog := prog) e zs
  obtain rfl : i = i' := Option.some.inj (hi.symm.trans hi')
  obtain ⟨i', hi'', hb⟩ := Byt.spec (prog := prog) e B
  obtain rfl : i = i' := Option.some.inj (hi.symm.trans hi'')
  have hl : (bts s).length = s.size * 1 := by rw [bts_len, Nat.mul_one]
  have hzsz : z.cells.size = 1 := by rw [← Array.length_toList, hzc, hzl]
  have hsmall : len + s.size ≤ 9223372036854775807 := by simp only [maxLen] at h63; omega
  have hsrc : ∀ w : World, Go.Src prog i.size tx (.string s) s.size (bts s) w := fun w => by rw [hsz]; exact Go.Src.ofString w htx s
  have fresh : ∀ (P' : HProp), Sat σ w P' → ∀ (olds : List Value) (old : Nat), olds.length = len * 1 → old < len + s.size →
      Sat σ (w.drew.alloc (.cells ((olds ++ bts s).toArray ++ Builtin.zeroCells z.cells (grownCap w (len + s.size) old e - (len + s.size))) e))
        (sep (Own e 1 (.slice (some ⟨w.heap.size, 0, none⟩) (len + s.size) (grownCap w (len + s.size) old e)) (len + s.size) (olds ++ bts s)) (P')) := by
    intro P' hP' olds old ho _
    have hge := grownCap_ge w (len + s.size) old e
    have hle := grownCap_le_maxLen w (len + s.size) old e h63
    have h2 := hP'.drew.alloc (.cells ((olds ++ bts s).toArray ++ Builtin.zeroCells z.cells (grownCap w (len + s.size) old e - (len + s.size))) e)
    have e1 : ((olds ++ bts s).toArray ++ Builtin.zeroCells z.cells (grownCap w (len + s.size) old e - (len + s.size))) = ([] ++ (olds ++ bts s) ++ (Builtin.zeroCells z.cells (grownCap w (len + s.size) old e - (len + s.size))).toList).toArray := by
      apply Array.toList_inj.1; simp
    rw [e1] at h2 ⊢
    refine h2.ent (Ent.frame (Own.mk rfl hge hle (by rw [List.length_append, ho, hl, Nat.add_mul]) ?_) P')
    rw [Array.length_toList, size_zeroCells, hzsz]
    exact Nat.le_refl _
  rcases sat_own hs with ⟨rfl, rfl, rfl, hP⟩ | ⟨b, cap, pre, post, rfl, hc1, hc2, hc3, hc4, hP⟩
  · by_cases hk : s.size = 0
    · have he := size_zero hk
      subst he
      refine ⟨.slice none 0 0, w, ?_, hs⟩
      have hfc := firstCells_string (P := prog) ByteArray.empty w
      simp only [Builtin.append_, List.getElem?_toArray, List.getElem?_cons_zero, List.getElem?_cons_succ, Sem.run_bind, run_und' ht, run_und' htx, Result.andThen_ok, run_sizeOf' hi, Sem.run_pure, Builtin.lenOf, hsz, Sem.run_ite, Bool.false_eq_true, if_false, Bool.not_false, if_true, ByteArray.size_empty, Nat.add_zero, Nat.le_refl] at hfc ⊢
      rw [hfc]
      rfl
    · have hr' := run_append_grow_src (P := prog) w t tx ty e i z ht hi hz none 0 0 [] (by simp [Builtin.firstCells]) (.string s) s.size (bts s) (hsrc w) (by omega) (by omega) (by
        have := nextslicecap_zero (need := s.size) (by omega)
        rw [Nat.zero_add, this, hb]
        simp only [Nat.zero_add] at hB
        omega)
      exact ⟨_, _, hr', fresh P hP [] 0 (by simp) (by omega)⟩
  · have hold : ∀ j u, l[j]? = some u → w.cell? ((ad b pre.length).add j) = some u := fun j u hj => by
      have hjl : j < l.length := by
        rcases Nat.lt_or_ge j l.length with h | h
        · exact h
        · rw [List.getElem?_eq_none h] at hj; cases hj
      rw [ad_add, cell_of_cel hP, mid_get _ _ _ _ hjl, hj]
    by_cases hroom : len + s.size ≤ cap
    · have hfc : (Builtin.firstCells 1 s.size (.string s)).run prog w = .ok (bts s).toArray w := firstCells_string (P := prog) s w
      have hlen : (pre ++ l ++ post).length = pre.length + len * 1 + post.length := by simp [hc3]; omega
      have hfit : pre.length + len * 1 + 0 + (bts s).length ≤ (pre ++ l ++ post).toArray.size := by
        rw [List.size_toArray, hlen, hl]
        omega
      have hst := run_storeCells_at prog b (pre.length + len * 1) e (bts s) 0 (pre ++ l ++ post).toArray w hP.blk hfit (bts_one s)
      simp only [Nat.add_zero] at hst
      have e2 : (pre ++ l ++ post).take (pre.length + len * 1) ++ bts s ++ (pre ++ l ++ post).drop (pre.length + len * 1 + (bts s).length) = pre ++ (l ++ bts s) ++ post.drop (bts s).length := by
        have a1 : (pre ++ l ++ post).take (pre.length + len * 1) = pre ++ l := List.take_left' (by simp [hc3])
        have a2 : (pre ++ l ++ post).drop (pre.length + len * 1 + (bts s).length) = post.drop (bts s).length := by
          rw [← List.drop_drop, List.drop_left' (by simp [hc3])]
        rw [a1, a2]; simp
      have hst' : (storeCells ((ad b pre.length).add (len * 1)) (bts s) 0).run prog w = .ok () (w.setRow b (pre ++ (l ++ bts s) ++ post.drop (bts s).length).toArray) := by
        rw [ad_add, ← e2]; exact hst
      have h5 : Sat σ (w.setRow b (pre ++ (l ++ bts s) ++ post.drop (bts s).length).toArray) (sep (cel b (pre ++ (l ++ bts s) ++ post.drop (bts s).length) e) (P)) := setRow_sat hP
      refine ⟨.slice (some (ad b pre.length)) (len + s.size) cap, w.setRow b (pre ++ (l ++ bts s) ++ post.drop (bts s).length).toArray, ?_, ?_⟩
      · simp only [Builtin.append_, List.getElem?_toArray, List.getElem?_cons_zero, List.getElem?_cons_succ, Sem.run_bind, run_und' ht, run_und' htx, Result.andThen_ok, run_sizeOf' hi, Sem.run_pure, Builtin.lenOf, hsz, hroom, if_true, hfc, hst', Sem.run_ite, Bool.false_eq_true, if_false, Bool.not_false]
      · refine h5.ent (Ent.frame (Own.mk rfl hroom hc2 (by rw [List.length_append, hc3, hl, Nat.add_mul]) ?_) P)
        rw [List.length_drop, hl]
        omega
    · have hr' := run_append_grow_src (P := prog) w t tx ty e i z ht hi hz (some (ad b pre.length)) len cap l (by
        have h5 := run_firstCells_some (P := prog) w.drew i.size len (ad b pre.length) len cap l (by rw [hc3, hsz]) (fun j u hj => by simpa using hold j u hj)
        exact h5) (.string s) s.size (bts s) (hsrc w) (by omega) (by omega) (growslice_fits (by omega) (by rw [hb]; exact hB))
      exact ⟨_, _, hr', fresh P hP.drop l cap hc3 (by omega)⟩
theorem opx_appendS {d : Nat} {x y : Operand} {t tx e B len : Nat} {ty : TypeId} {pos : String} {aft : Array Edge} {g : Option (Nat × Bool)} {zs l : List Value} {v : Value} {s : ByteArray} [Slc prog t e 1] [Str prog tx] [Zer prog e zs] [Byt prog e B] (hx : ev E x = some v) (hy : ev E y = some (.string s)) [hT : FOwn P e 1 v len l R]
    (hzl : zs.length = 1) (h63 : len + s.size ≤ maxLen) (hB : (len + s.size) * B ≤ 140737488355328) (hd : Nat.blt d n = true) :
    OpX prog σ n E P ⟨some d, .call ⟨.builtin .append, #[x, y], #[t, tx]⟩, ty, pos, aft, g⟩ (fun _ : Option Addr × Nat => True) (fun r => (d, .slice r.1 (len + s.size) r.2) :: E) (fun r => (sep (Own e 1 (.slice r.1 (len + s.size) r.2) (len + s.size) (l ++ bts s)) (R))) := by
  refine OpX.of_run rfl hd fun a w ha hw => ?_
  rw [hT.eq] at hw
  obtain ⟨A, c, w', hr, hs'⟩ := run_appendS (prog := prog) (t := t) (tx := tx) (ty := ty) hzl hw h63 hB
  refine ⟨(A, c), w', trivial, ?_, hs'⟩
  simp only [execOp, resolve, List.map_toArray, List.map_cons, List.map_nil, ha.ev hx, ha.ev hy, Sem.run_bind, Sem.run_pure, Result.andThen_ok, invoke, builtin, hr]
end Go.SLA
