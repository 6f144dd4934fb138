/- Rules of a separation logic over the model, and contracts of functions of the translation; used by the texts that import this one. -/
import Derived.MapKept
import Derived.KernelRfl
import Derived.Test.YtpkcniedaabpoaaGreatM2
import Derived.Test.YtpkcniedaabpoaaGreatProg
set_option linter.unusedVariables false
set_option linter.unusedSimpArgs false
namespace Go.SLA
attribute [local instance] Classical.propDecidable
variable {prog : Program} {σ : World} {n : Nat} {Q : Exit → Act → World → Prop} {E E' : Env} {P P' R F : HProp} {ops : Array Oper} {rest : List Oper}
/-! ### A loop, round by round -/
def LoopWp (prog : Program) (c : Code) (Q : Exit → Act → World → Prop) (a : Act) (w : World) : Prop :=
  ∀ (b : Frame) (k : List Item) (cs : List Frame), ∃ e a' w', Q e a' w' ∧ Arrives prog (lone (b.at a (.code c :: .inLoop c :: k)) cs w) b k cs e a' w'
def JU (prog : Program) (σ : World) (n : Nat) (c : Code) (Q : Exit → Act → World → Prop) (E : Env) (P : HProp) : Prop := ∀ a w, Agree n E a → Sat σ w P → LoopWp prog c Q a w
theorem J_loopU {c : Code} (h : JU prog σ n c Q E P) : J prog σ n (.loop c) Q E P := fun a w ha hw b k cs =>
  let ⟨e, a', w', hq, harr⟩ := h a w ha hw b k cs
  ⟨e, a', w', hq, .of_steps (.one step_loop) harr⟩
theorem JU_round {c : Code} (h : J prog σ n c (Exit.then (LoopWp prog c Q) Q) E P) : JU prog σ n c Q E P := fun a w ha hw b k cs => by
  obtain ⟨e, a₁, w₁, hq, harr⟩ := h a w ha hw b (.inLoop c :: k) cs
  cases e with
  | normal =>
    obtain ⟨e₂, a₂, w₂, hq₂, harr₂⟩ := hq b k cs
    exact ⟨e₂, a₂, w₂, hq₂, .of_steps (Steps.trans harr (.one step_inLoop)) harr₂⟩
  | exit id => exact ⟨_, a₁, w₁, hq, .pass (x := .inLoop c) rfl (fun _ _ => .inl (by simp)) harr⟩
  | goto l => exact ⟨_, a₁, w₁, hq, .pass (x := .inLoop c) rfl (fun _ _ => .inl (by simp)) harr⟩
  | ret => exact ⟨_, a₁, w₁, hq, .pass (x := .inLoop c) rfl (fun _ _ => .inl (by simp)) harr⟩
  | panic ch => exact ⟨_, a₁, w₁, hq, .pass (x := .inLoop c) rfl (fun _ _ => .inl (by simp)) harr⟩
  | outgrown => exact ⟨_, a₁, w₁, hq, .pass (x := .inLoop c) rfl (fun _ _ => .inl (by simp)) harr⟩
theorem K_round {c : Code} (h : JU prog σ n c Q E P) : K σ n (Exit.then (LoopWp prog c Q) Q) .normal E P := fun a w ha hw => h a w ha hw
/-! ### Lists worked out -/
class AppL {α : Type} (l r : List α) (s : outParam (List α)) : Prop where
  eq : l ++ r = s
instance {α : Type} {r : List α} : AppL [] r r := ⟨rfl⟩
instance {α : Type} {x : α} {l r s : List α} [h : AppL l r s] : AppL (x :: l) r (x :: s) := ⟨by rw [List.cons_append, h.eq]⟩
class SetE (l : List MapEntry) (i : Nat) (k v : Value) (s : outParam (List MapEntry)) : Prop where
  eq : (l.modify i fun e => { e with key := k, val := v }) = s
instance {k v a b : Value} {n : Nat} {l : List MapEntry} : SetE (⟨a, b, n⟩ :: l) 0 k v (⟨k, v, n⟩ :: l) := ⟨rfl⟩
class DelL {α : Type} (l : List α) (i : Nat) (s : outParam (List α)) : Prop where
  eq : l.eraseIdx i = s
instance {α : Type} {x : α} {l : List α} : DelL (x :: l) 0 l := ⟨rfl⟩
/-! ### Integers worked out -/
def ibin : BinOp → IntKind → Int → Int → Option Value
  | .add, k, a, b => some (.int k (k.wrap (a + b)))
  | .sub, k, a, b => some (.int k (k.wrap (a - b)))
  | .mul, k, a, b => some (.int k (k.wrap (a * b)))
  | .quo, k, a, b => if b = 0 then none else some (.int k (k.wrap (a.tdiv b)))
  | .rem, k, a, b => if b = 0 then none else some (.int k (a.tmod b))
  | .eql, _, a, b => some (.bool (decide (a = b)))
  | .neq, _, a, b => some (.bool (decide (a ≠ b)))
  | .lss, _, a, b => some (.bool (decide (a < b)))
  | .leq, _, a, b => some (.bool (decide (a ≤ b)))
  | .gtr, _, a, b => some (.bool (decide (b < a)))
  | .geq, _, a, b => some (.bool (decide (b ≤ a)))
  | _, _, _, _ => none
section
variable {d : Option Tmp} {ty : TypeId} {pos : String} {aft : Array Edge} {g : Option (Nat × Bool)} {x y z : Operand} {t t' : TypeId} {k k' : IntKind} {a b : Int} {v u c : Value}
theorem opv_ib {op : BinOp} (hx : ev E x = some (.int k a)) (hy : ev E y = some (.int k b)) (h : ibin op k a b = some c) : OpV prog σ n E P ⟨d, .binOp op t x y t', ty, pos, aft, g⟩ c := by
  cases op <;> simp only [ibin, Option.some.injEq, reduceCtorEq] at h <;> first
    | (subst h; first | exact opv_add hx hy | exact opv_sub hx hy | exact opv_mul hx hy | exact opv_eql hx hy | exact opv_neq hx hy | exact opv_lss hx hy | exact opv_leq hx hy | exact opv_gtr hx hy | exact opv_geq hx hy)
    | (split at h
       · cases h
       · simp only [Option.some.injEq] at h
         subst h
         first | exact opv_quo hx hy (by assumption) | exact opv_rem hx hy (by assumption))
theorem opv_cv {src dst : TypeId} [IntT prog src k] [IntT prog dst k'] (hx : ev E x = some (.int k a)) (h : Value.int k' (k'.wrap a) = c) : OpV prog σ n E P ⟨d, .convert src dst x, ty, pos, aft, g⟩ c := h ▸ opv_convert hx
theorem opv_nt {p q : Bool} (hx : ev E x = some (.bool p)) (h : (!p) = q) : OpV prog σ n E P ⟨d, .unOp .not t x, ty, pos, aft, g⟩ (.bool q) := h ▸ opv_not hx
theorem opv_pk {p : Bool} (hx : ev E x = some (.bool p)) (hv : ev E (bif p then y else z) = some v) : OpV prog σ n E P ⟨d, .pick x y z, ty, pos, aft, g⟩ v := by
  cases p
  · exact fun _ w ha _ => by simp [execOp, ha.ev hx, asBool, ha.ev (show ev E z = some v from hv)]
  · exact opv_pick_tt hx hv
theorem opv_nB {p q r : Bool} [BoolT prog t] (hx : ev E x = some (.bool p)) (hy : ev E y = some (.bool q)) (h : (p != q) = r) : OpV prog σ n E P ⟨d, .binOp .neq t x y t', ty, pos, aft, g⟩ (.bool r) := h ▸ opv_neqB hx hy
theorem opv_eP {p : Option Addr} {r : Bool} [PtrT prog t] (hx : ev E x = some (.pointer p)) (hy : ev E y = some (.pointer none)) (h : p.isNone = r) : OpV prog σ n E P ⟨d, .binOp .eql t x y t', ty, pos, aft, g⟩ (.bool r) := h ▸ opv_eqlNil hx hy
theorem opv_nP {p : Option Addr} {r : Bool} [PtrT prog t] (hx : ev E x = some (.pointer p)) (hy : ev E y = some (.pointer none)) (h : p.isSome = r) : OpV prog σ n E P ⟨d, .binOp .neq t x y t', ty, pos, aft, g⟩ (.bool r) := h ▸ opv_neqNil hx hy
end
/-! ### Maps with integer keys whose entries are known -/
class LookM (P : HProp) (r : Nat) (es : outParam (List MapEntry)) (clk : outParam Nat) (R : outParam HProp) : Prop where
  eq : P = (sep (blk r (.map es.toArray clk)) (R))
instance (priority := 100) {A P R : HProp} {r clk : Nat} {es : List MapEntry} [h : LookM P r es clk R] : LookM (sep (A) (P)) r es clk (sep (A) (R)) := ⟨by rw [h.eq, sep_left_comm]⟩
instance (priority := 150) {A B P R : HProp} {r clk : Nat} {es : List MapEntry} [h : LookM (sep (A) (sep (B) (P))) r es clk R] : LookM (sep ((sep (A) (B))) (P)) r es clk R := ⟨by rw [sep_assoc]; exact h.eq⟩
instance (priority := 200) {r clk : Nat} {es : List MapEntry} {R : HProp} : LookM (sep (blk r (.map es.toArray clk)) (R)) r es clk R := ⟨rfl⟩
instance (priority := 50) {r clk : Nat} {es : List MapEntry} : LookM (blk r (.map es.toArray clk)) r es clk emp := ⟨(sep_emp _).symm⟩
def lookR (k : IntKind) (m : Int) (es : List MapEntry) (z : Value) (ok : Bool) : Option Value :=
  match Instr.findNow (.int k) (.int k m) es 0 with
  | none => none
  | some none => some (bif ok then .tuple #[z, .bool false] else z)
  | some (some (_, v)) => some (bif ok then .tuple #[v, .bool true] else v)
theorem lookR_spec {k : IntKind} {m : Int} {es : List MapEntry} {z v : Value} {ok : Bool} (h : lookR k m es z ok = some v) : ∃ fo : Option (Nat × Value), Instr.findNow (.int k) (.int k m) es 0 = some fo ∧ (if ok then .tuple #[(fo.map (·.2)).getD z, .bool fo.isSome] else (fo.map (·.2)).getD z) = v := by
  unfold lookR at h
  split at h
  · cases h
  · rename_i h1
    refine ⟨none, h1, ?_⟩
    simp only [Option.some.injEq] at h
    rw [← h]; cases ok <;> rfl
  · rename_i i u h1
    refine ⟨some (i, u), h1, ?_⟩
    simp only [Option.some.injEq] at h
    rw [← h]; cases ok <;> rfl
class MapI (prog : Program) (t : TypeId) (k : outParam IntKind) (z : outParam Value) : Prop where
  b : ∃ kt e, prog.underlying t = some (.map kt e) ∧ prog.underlying kt = some (.int k) ∧ (prog.info? e).bind (·.zero) = some z
theorem MapI.spec {t : TypeId} {k : IntKind} {z : Value} (h : MapI prog t k z) : ∃ kt e, prog.underlying t = some (.map kt e) ∧ prog.underlying kt = some (.int k) ∧ ∀ w, (zeroValue e).run prog w = .ok z w := by
  obtain ⟨kt, e, h1, h0, h2⟩ := h.b
  cases hi : prog.info? e with
  | none => rw [hi] at h2; cases h2
  | some i =>
    rw [hi] at h2
    have h3 : i.zero = some z := h2
    exact ⟨kt, e, h1, h0, fun w => by simp [zeroValue, run_typeInfo' hi, h3]⟩
section
variable {d : Option Nat} {ty : TypeId} {pos : String} {aft : Array Edge} {g : Option (Nat × Bool)} {x y z : Operand} {t : TypeId} {r clk : Nat} {k : IntKind} {m : Int} {zv v u : Value} {es es' : List MapEntry} {fo : Option (Nat × Value)}
theorem opv_lookC [hm : MapI prog t k zv] {ok : Bool} (hx : ev E x = some (.map (some r))) (hy : ev E y = some (.int k m)) [hT : LookM P r es clk R] (hl : lookR k m es zv ok = some v) : OpV prog σ n E P ⟨d, .lookup t x y ok, ty, pos, aft, g⟩ v := fun _ w ha hw => by
  obtain ⟨fo, hf, hv⟩ := lookR_spec hl
  rw [hT.eq] at hw
  obtain ⟨kt, e, h1, h0, h2⟩ := hm.spec
  have hb := hw.blk
  have hck := MapKept.run_checkKey (w := w) (k := .int k m) h0 rfl es.toArray.isEmpty 9999
  have hfk := MapKept.run_findKey (w := w) h0 hf
  subst hv
  simp only [execOp, ha.ev hx, ha.ev hy, Instr.lookup, Sem.run_bind, run_underlying h1, Result.andThen_ok, run_getObj_map w r es.toArray clk hb, hck, hfk, Sem.run_pure]
  cases fo with
  | none => simp only [Sem.run_bind, h2 w, Result.andThen_ok, Sem.run_pure, Option.map_none, Option.getD_none, Option.isSome_none]
  | some p => simp only [Sem.run_bind, Sem.run_pure, Result.andThen_ok, Option.map_some, Option.getD_some, Option.isSome_some]
theorem sat_setC {w : World} {es es' : Array MapEntry} {c c' : Nat} (h : Sat σ w (sep (blk r (.map es c)) (R))) : Sat σ { w with heap := w.heap.setIfInBounds r (.map es' c') } (sep (blk r (.map es' c')) (R)) := by
  have hb := h.blk
  have hlt : r < w.heap.size := by
    rcases Nat.lt_or_ge r w.heap.size with hl | hl
    · exact hl
    · rw [Array.getElem?_eq_none hl] at hb; cases hb
  exact h.update (w' := { w with heap := w.heap.setIfInBounds r (.map es' c') }) (o' := .map es' c') rfl rfl rfl (by simp [hlt]) (fun k hk => by
    show (w.heap.setIfInBounds r _)[k]? = _
    rw [Array.getElem?_setIfInBounds, if_neg (fun e => hk e.symm)])
theorem opx_makeC {d : Nat} (hd : Nat.blt d n = true) :
    OpX prog σ n E P ⟨some d, .makeMap t none, ty, pos, aft, g⟩ (fun _ : Nat => True) (fun r => (d, .map (some r)) :: E) (fun r => (sep (blk r (.map #[] 0)) (P))) := by
  refine OpX.of_run rfl hd fun a w ha hs => ?_
  refine ⟨w.heap.size, w.alloc (.map #[] 0), trivial, ?_, hs.alloc (.map #[] 0)⟩
  have h1 : (Instr.makeMap t none).run prog w = .ok (.map (some w.heap.size)) (w.alloc (.map #[] 0)) := rfl
  simp only [execOp, Option.map_none, Sem.run_bind, h1, Result.andThen_ok, Sem.run_pure]
theorem keyStaysI {w : World} {k : IntKind} {m : Int} : (Instr.keyThatStays (.int k m) (.int k m)).run prog w = .ok (.int k m) w := by
  unfold Instr.keyThatStays
  rw [if_pos (by simp [Instr.sameBits])]
  rfl
/-- A key put that is not there yet. -/
theorem opx_putC [hm : MapI prog t k zv] (hx : ev E x = some (.map (some r))) (hy : ev E y = some (.int k m)) (hz : ev E z = some v) [hT : LookM P r es clk R] (hf : Instr.findNow (.int k) (.int k m) es 0 = some none) [he : AppL es [⟨.int k m, v, clk⟩] es'] :
    OpX prog σ n E P ⟨none, .mapUpdate t x y z, ty, pos, aft, g⟩ (fun _ : Unit => True) (fun _ => E) (fun _ => (sep (blk r (.map es'.toArray (clk + 1))) (R))) := by
  refine OpX.of_skip rfl fun a w ha hw => ?_
  rw [hT.eq] at hw
  obtain ⟨kt, e, h1, h0, h2⟩ := hm.spec
  have hb := hw.blk
  have hck := MapKept.run_checkKey (w := w) (k := .int k m) h0 rfl false 9999
  have hfk := MapKept.run_findKey (w := w) h0 hf
  have he := he.eq
  subst he
  refine ⟨(), _, trivial, ?_, sat_setC hw⟩
  simp only [execOp, ha.ev hx, ha.ev hy, ha.ev hz, Instr.mapUpdate, Sem.run_bind, run_underlying h1, Result.andThen_ok, run_getObj_map w r es.toArray clk hb, hck, hfk, run_setMap _ hb, Sem.run_pure, List.push_toArray]
/-- A key put that is there. -/
theorem opx_setC [hm : MapI prog t k zv] (hx : ev E x = some (.map (some r))) (hy : ev E y = some (.int k m)) (hz : ev E z = some v) [hT : LookM P r es clk R] {i : Nat} (hf : Instr.findNow (.int k) (.int k m) es 0 = some (some (i, u))) (hk : (es[i]?.map (·.key)).getD (.int k m) = .int k m)
    [he : SetE es i (.int k m) v es'] :
    OpX prog σ n E P ⟨none, .mapUpdate t x y z, ty, pos, aft, g⟩ (fun _ : Unit => True) (fun _ => E) (fun _ => (sep (blk r (.map es'.toArray clk)) (R))) := by
  refine OpX.of_skip rfl fun a w ha hw => ?_
  rw [hT.eq] at hw
  obtain ⟨kt, e, h1, h0, h2⟩ := hm.spec
  have hb := hw.blk
  have hck := MapKept.run_checkKey (w := w) (k := .int k m) h0 rfl false 9999
  have hfk := MapKept.run_findKey (w := w) h0 hf
  have hes : es.toArray.modify i (fun e => { e with key := .int k m, val := v }) = es'.toArray := by rw [← he.eq]; exact Array.toList_inj.1 (by rw [Array.toList_modify])
  refine ⟨(), _, trivial, ?_, sat_setC hw⟩
  simp only [execOp, ha.ev hx, ha.ev hy, ha.ev hz, Instr.mapUpdate, Sem.run_bind, run_underlying h1, Result.andThen_ok, run_getObj_map w r es.toArray clk hb, hck, hfk, List.getElem?_toArray, hk, keyStaysI, run_setMap _ hb, Sem.run_pure, hes]
/-- A key taken out that is there. -/
theorem opx_delC {tk : TypeId} [hm : MapI prog t k zv] (hx : ev E x = some (.map (some r))) (hy : ev E y = some (.int k m)) [hT : LookM P r es clk R] {i : Nat} (hf : Instr.findNow (.int k) (.int k m) es 0 = some (some (i, u))) [he : DelL es i es'] (hi : Nat.blt i es.length = true) :
    OpX prog σ n E P ⟨none, .call ⟨.builtin .delete, #[x, y], #[t, tk]⟩, ty, pos, aft, g⟩ (fun _ : Unit => True) (fun _ => E) (fun _ => (sep (blk r (.map es'.toArray clk)) (R))) := by
  refine OpX.of_val0 (val := fun _ => .tuple #[]) rfl fun a w ha hw => ?_
  rw [hT.eq] at hw
  obtain ⟨kt, e, h1, h0, h2⟩ := hm.spec
  have hb := hw.blk
  have hck := MapKept.run_checkKey (w := w) (k := .int k m) h0 rfl es.toArray.isEmpty 9999
  have hfk := MapKept.run_findKey (w := w) h0 hf
  have hlt : i < es.toArray.size := by have := Nat.le_of_ble_eq_true hi; simp; omega
  have hes : es.toArray.eraseIdxIfInBounds i = es'.toArray := by rw [← he.eq, Array.eraseIdxIfInBounds, dif_pos hlt]; exact Array.toList_inj.1 (by rw [Array.toList_eraseIdx])
  refine ⟨(), _, trivial, ?_, sat_setC hw⟩
  simp only [execOp, resolve, List.map_toArray, List.map_cons, List.map_nil, ha.ev hx, ha.ev hy, Sem.run_bind, Sem.run_pure, Result.andThen_ok, invoke, builtin, Builtin.delete_, List.getElem?_toArray, List.getElem?_cons_zero, List.getElem?_cons_succ, run_underlying h1, run_getObj_map w r es.toArray clk hb, hck, hfk, run_setMap _ hb, hes]
end
end Go.SLA
namespace Go.SLA
attribute [local instance] Classical.propDecidable
variable {prog : Program} {σ : World} {n : Nat} {Q : Exit → Act → World → Prop} {E E' : Env} {P P' R F : HProp} {ops : Array Oper} {rest : List Oper}
/-! ### Places -/
section
variable {d : Option Tmp} {ty : TypeId} {pos : String} {aft : Array Edge} {g : Option (Nat × Bool)} {x y z : Operand} {t t' : TypeId} {k k' : IntKind} {a : Int} {v u c : Value}
theorem opv_fa {b o f off m : Nat} (q : Nat) [Fld prog t f off m] (hx : ev E x = some (.pointer (some (ad b o)))) (h : o + off = q) : OpV prog σ n E P ⟨d, .fieldAddr t x f, ty, pos, aft, g⟩ (.pointer (some (ad b q))) := h ▸ opv_fieldAddr hx
theorem opv_ix {b o len cap e m : Nat} (q : Nat) [Slc prog t e m] (hx : ev E x = some (.slice (some (ad b o)) len cap)) (hy : ev E y = some (.int k a)) (h0 : decide (0 ≤ a ∧ a < len) = true) (h : o + a.toNat * m = q) :
    OpV prog σ n E P ⟨d, .indexAddr t x y, ty, pos, aft, g⟩ (.pointer (some (ad b q))) := h ▸ opv_indexAddr hx hy (of_decide_eq_true h0)
theorem opv_ixA {b o len e m : Nat} (q : Nat) [Arr prog t len e m] (hx : ev E x = some (.pointer (some (ad b o)))) (hy : ev E y = some (.int k a)) (h0 : decide (0 ≤ a ∧ a < len) = true) (h : o + a.toNat * m = q) :
    OpV prog σ n E P ⟨d, .indexAddr t x y, ty, pos, aft, g⟩ (.pointer (some (ad b q))) := h ▸ opv_indexAddrA hx hy (of_decide_eq_true h0)
/-- An element of an array that is a value, of one cell. -/
theorem opv_ixV {len e : Nat} {l : List Value} [Arr prog t len e 1] [One prog e] (hx : ev E x = some (.agg l.toArray)) (hy : ev E y = some (.int k a)) (h0 : decide (0 ≤ a ∧ a < len) = true) (h : l[a.toNat]? = some v) :
    OpV prog σ n E P ⟨d, .index t x y, ty, pos, aft, g⟩ v := fun _ w ha _ => by
  obtain ⟨h1, i, h2, h3⟩ := Arr.spec (prog := prog) t len e 1
  obtain ⟨dd, i', h4, h5, h6, h7⟩ := One.spec (prog := prog) e
  obtain rfl : i = i' := Option.some.inj (h2.symm.trans h6)
  have h0 := of_decide_eq_true h0
  simp only [execOp, ha.ev hx, ha.ev hy, Instr.index, asIntOf, Sem.run_bind, Sem.run_pure, Result.andThen_ok, run_und' h1, Sem.run_ite, if_pos h0, run_sizeOf' h2, h3, Nat.mul_one, part, run_isAgg' h4, h5, Bool.false_eq_true, if_false]
  simp [h]
end
/-! ### Slices of one's own that are not nil -/
class LookO (P : HProp) (b o : Nat) (e m len c : outParam Nat) (l : outParam (List Value)) (R : outParam HProp) : Prop where
  eq : P = (sep (Own e m (.slice (some (ad b o)) len c) len l) (R))
instance (priority := 100) {A P R : HProp} {b o e m len c : Nat} {l : List Value} [h : LookO P b o e m len c l R] : LookO (sep (A) (P)) b o e m len c l (sep (A) (R)) := ⟨by rw [h.eq, sep_left_comm]⟩
instance (priority := 150) {A B P R : HProp} {b o e m len c : Nat} {l : List Value} [h : LookO (sep (A) (sep (B) (P))) b o e m len c l R] : LookO (sep ((sep (A) (B))) (P)) b o e m len c l R := ⟨by rw [sep_assoc]; exact h.eq⟩
instance (priority := 200) {b o e m len c : Nat} {l : List Value} {R : HProp} : LookO (sep (Own e m (.slice (some (ad b o)) len c) len l) (R)) b o e m len c l R := ⟨rfl⟩
instance (priority := 50) {b o e m len c : Nat} {l : List Value} : LookO (Own e m (.slice (some (ad b o)) len c) len l) b o e m len c l emp := ⟨(sep_emp _).symm⟩
theorem Rd.O {b o e m len c j : Nat} {l : List Value} {u : Value} [h : LookO P b o e m len c l R] (hj : l[j]? = some u) : Rd P b (o + j) u := fun σ w hs => by
  rw [h.eq] at hs
  exact Rd.own hj σ w hs.left
section
variable {d : Option Tmp} {ty : TypeId} {pos : String} {aft : Array Edge} {g : Option (Nat × Bool)} {x y z : Operand} {t t' : TypeId} {k k' : IntKind} {a : Int} {v u : Value}
theorem opv_ldO {b o q e m len c : Nat} (j : Nat) {l : List Value} [One prog t] (hx : ev E x = some (.pointer (some (ad b q)))) [LookO P b o e m len c l R] (hq : o + j = q) (hj : l[j]? = some u) : OpV prog σ n E P ⟨d, .load t x, ty, pos, aft, g⟩ u :=
  opv_load (o := o + j) (by rw [hq]; exact hx) (Rd.O hj)
theorem opv_ldOS {b o q e m len c mm : Nat} (j : Nat) {l vs : List Value} [Agg prog t mm] (hx : ev E x = some (.pointer (some (ad b q)))) [LookO P b o e m len c l R] (hq : o + j = q) [hc : CutL l j mm vs] : OpV prog σ n E P ⟨d, .load t x, ty, pos, aft, g⟩ (.agg vs.toArray) :=
  opv_loadN (o := o + j) (by rw [hq]; exact hx) hc.le fun i u hi => by
    rw [Nat.add_assoc]
    refine Rd.O ?_
    rw [← hc.eq, List.getElem?_take] at hi
    split at hi
    · rw [List.getElem?_drop] at hi; exact hi
    · cases hi
theorem Own.set {e m b o len c j : Nat} {l l' vs : List Value} {w : World} {t : TypeId} {v : Value} {mm : Nat} [Siz prog t mm] (hs : Sat σ w (sep (Own e m (.slice (some (ad b o)) len c) len l) (R))) (hc : v.cells = vs.toArray) (hl : vs.length = mm) (h1 : ∀ u ∈ vs, u.oneCell' = true) (hle : j + vs.length ≤ l.length)
    (hl' : l' = l.take j ++ vs ++ l.drop (j + vs.length)) : ∃ w', (storeVar t (ad b (o + j)) v).run prog w = .ok () w' ∧ Sat σ w' (sep (Own e m (.slice (some (ad b o)) len c) len l') (R)) := by
  rcases sat_own hs with ⟨g1, _⟩ | ⟨b', cap, pre, post, g1, g2, g3, g4, g5, g6⟩
  · cases g1
  · simp only [Value.slice.injEq, Option.some.injEq, Addr.mk.injEq] at g1
    obtain ⟨⟨rfl, rfl, _⟩, _, rfl⟩ := g1
    have hst := run_storeN (prog := prog) (t := t) (m := mm) (o := pre.length + j) g6 hc hl h1 (by simp; omega)
    refine ⟨_, hst, ?_⟩
    have h2 := setRow_sat (l' := pre ++ l' ++ post) g6
    have e1 : (pre ++ l ++ post).take (pre.length + j) ++ vs ++ (pre ++ l ++ post).drop (pre.length + j + vs.length) = pre ++ l' ++ post := by
      subst hl'
      rw [List.append_assoc pre l post, List.take_append, Nat.add_assoc, List.drop_append]
      rw [List.take_of_length_le (by omega), List.drop_eq_nil_of_le (by omega), List.nil_append]
      rw [show pre.length + j - pre.length = j by omega, show pre.length + (j + vs.length) - pre.length = j + vs.length by omega]
      rw [List.take_append_of_le_length (by omega), List.drop_append_of_le_length (by omega)]
      simp
    rw [e1]
    refine h2.ent (Ent.frame (Own.mk rfl g2 g3 ?_ g5) R)
    subst hl'
    rw [← g4]
    simp
    omega
theorem opx_stO {b o q e m len c mm : Nat} (j : Nat) {l l' vs : List Value} [Siz prog t mm] (hx : ev E x = some (.pointer (some (ad b q)))) (hy : ev E y = some v) [hk : LookO P b o e m len c l R] (hq : o + j = q) [hc : Cel v vs] (hl : vs.length = mm) (h1 : ∀ u ∈ vs, u.oneCell' = true) [hs : Spl l j vs l'] :
    OpX prog σ n E P ⟨none, .store t x y, ty, pos, aft, g⟩ (fun _ : Unit => True) (fun _ => E) (fun _ => (sep (Own e m (.slice (some (ad b o)) len c) len l') (R))) := by
  refine OpX.of_skip rfl fun a w ha hw => ?_
  rw [hk.eq] at hw
  obtain ⟨w', h2, h3⟩ := Own.set (prog := prog) (t := t) (j := j) hw hc.c hl h1 hs.le hs.eq
  refine ⟨(), w', trivial, ?_, h3⟩
  rw [hq] at h2
  simp only [execOp, ha.ev hx, ha.ev hy, Instr.storeAt, Instr.sureAddr, Sem.run_bind, Sem.run_pure, Result.andThen_ok, h2]
/-- From the k-th element on. -/
theorem opv_ct {e m b o len cap : Nat} {lo : Operand} [Slc prog t e m] (hx : ev E x = some (.slice (some (ad b o)) len cap)) (hl : ev E lo = some (.int k a)) (h0 : decide (0 ≤ a ∧ a ≤ len) = true) (q l' : Nat) (hq : a.toNat = q) (hl' : len - q = l') :
    OpV prog σ n E P ⟨d, .slice t x (some lo) none none, ty, pos, aft, g⟩ (.slice (some (ad b (if cap = q then o else o + q * m))) l' (cap - q)) := by
  have h := opv_sliceLlo (prog := prog) (σ := σ) (n := n) (P := P) (d := d) (ty := ty) (pos := pos) (aft := aft) (g := g) (t := t) hx hl (of_decide_eq_true h0)
  rwa [hq, cutV_at, hl'] at h
end
/-! ### append, with an answer that is not nil -/
section
variable {d : Nat} {x y : Operand} {t e m B len k : Nat} {ty : TypeId} {pos : String} {aft : Array Edge} {g : Option (Nat × Bool)} {zs l l' news : List Value} {u : Value}
theorem own_some {w : World} {v : Value} (h : Sat σ w (sep (Own e m v len l) (P))) (h0 : 0 < len) : ∃ b o c, v = .slice (some (ad b o)) len c := by
  rcases sat_own h with ⟨_, h2, _⟩ | ⟨b, cap, pre, post, h1, _⟩
  · omega
  · exact ⟨b, pre.length, cap, h1⟩
theorem opx_ap {b o c : Nat} (q : Nat) [Slc prog t e m] [Zer prog e zs] [Byt prog e B] (hx : ev E x = some (.slice (some (ad b o)) len c)) (hy : ev E y = some u) [hT : LookO P b o e m len c l R]
    (hsrc : Src (sep (Own e m (.slice (some (ad b o)) len c) len l) (R)) u k news) (hzl : zs.length = m) (hm : Nat.blt 0 m = true) (hl : news.length = k * m) (h1 : ∀ u ∈ news, u.oneCell' = true) (h63 : decide (0 < len + k ∧ len + k ≤ 1000000) = true) (hB : decide (B ≤ 1000000) = true) (hq : len + k = q) [he : AppL l news l'] (hd : Nat.blt d n = true) :
    OpX prog σ n E P ⟨some d, .call ⟨.builtin .append, #[x, y], #[t, t]⟩, ty, pos, aft, g⟩ (fun _ : Nat × Nat × Nat => True) (fun r => (d, .slice (some (ad r.1 r.2.1)) q r.2.2) :: E) (fun r => (sep (Own e m (.slice (some (ad r.1 r.2.1)) q r.2.2) q l') (R))) := by
  refine OpX.of_run rfl hd fun a w ha hw => ?_
  rw [hT.eq] at hw
  have h63 := of_decide_eq_true h63
  have hB := of_decide_eq_true hB
  obtain ⟨A, c', w', hr, hs'⟩ := run_append (prog := prog) (t := t) (ty := ty) hzl (Nat.le_of_ble_eq_true hm) hw hsrc hl h1 (by unfold maxLen; omega) (Nat.le_trans (Nat.mul_le_mul h63.2 hB) (by decide))
  obtain ⟨b2, o2, c2, hv⟩ := own_some hs' h63.1
  rw [hv, he.eq, hq] at hs'
  refine ⟨(b2, o2, c2), w', trivial, ?_, hs'⟩
  simp only [execOp, resolve, List.map_toArray, List.map_cons, List.map_nil, ha.ev hx, ha.ev hy, Sem.run_bind, Sem.run_pure, Result.andThen_ok, invoke, builtin, hr]
  rw [hv, hq]
theorem opx_apN (q : Nat) [Slc prog t e m] [Zer prog e zs] [Byt prog e B] (hx : ev E x = some (.slice none 0 0)) (hy : ev E y = some u)
    (hsrc : Src P u k news) (hzl : zs.length = m) (hm : Nat.blt 0 m = true) (hl : news.length = k * m) (h1 : ∀ u ∈ news, u.oneCell' = true) (h63 : decide (0 < k ∧ k ≤ 1000000) = true) (hB : decide (B ≤ 1000000) = true) (hq : k = q) (hd : Nat.blt d n = true) :
    OpX prog σ n E P ⟨some d, .call ⟨.builtin .append, #[x, y], #[t, t]⟩, ty, pos, aft, g⟩ (fun _ : Nat × Nat × Nat => True) (fun r => (d, .slice (some (ad r.1 r.2.1)) q r.2.2) :: E) (fun r => (sep (Own e m (.slice (some (ad r.1 r.2.1)) q r.2.2) q news) (P))) := by
  refine OpX.of_run rfl hd fun a w ha hw => ?_
  have h63 := of_decide_eq_true h63
  have hB := of_decide_eq_true hB
  have hw' : Sat σ w (sep (Own e m (.slice none 0 0) 0 []) (P)) := by
    have := hw.ent (Q := (sep (Own e m (.slice none 0 0) 0 []) (P))) (by
      have h := (Own.nil e m).frame P
      rwa [emp_sep] at h)
    exact this
  have hsrc' : Src (sep (Own e m (.slice none 0 0) 0 []) (P)) u k news := by
    rcases hsrc with h | ⟨b, o, c, h, hr⟩
    · exact .inl h
    · exact .inr ⟨b, o, c, h, fun j u hj σ w hs => hr j u hj σ w (hs.ent Ent.drop)⟩
  obtain ⟨A, c', w', hr, hs'⟩ := run_append (prog := prog) (t := t) (ty := ty) hzl (Nat.le_of_ble_eq_true hm) hw' hsrc' hl h1 (by unfold maxLen; omega) (Nat.le_trans (Nat.mul_le_mul (show 0 + k ≤ 1000000 by omega) hB) (by decide))
  obtain ⟨b2, o2, c2, hv⟩ := own_some hs' (by omega)
  rw [hv, List.nil_append, show 0 + k = q by omega] at hs'
  refine ⟨(b2, o2, c2), w', trivial, ?_, hs'⟩
  simp only [execOp, resolve, List.map_toArray, List.map_cons, List.map_nil, ha.ev hx, ha.ev hy, Sem.run_bind, Sem.run_pure, Result.andThen_ok, invoke, builtin, hr]
  rw [hv, show 0 + k = q by omega]
theorem Src.O {b o c : Nat} [h : LookO P b o e m len c l R] : Src P (.slice (some (ad b o)) len c) len l := .inr ⟨b, o, c, rfl, fun _ _ hj => Rd.O hj⟩
end
end Go.SLA
namespace Go.SLA
attribute [local instance] Classical.propDecidable
variable {prog : Program} {σ : World} {n : Nat} {Q : Exit → Act → World → Prop} {E E' : Env} {P P' R F : HProp} {ops : Array Oper} {rest : List Oper}
/-! ### Results -/
inductive ResL (prog : Program) (E : Env) (P : HProp) : List ResultVar → List Value → Prop
  | nil : ResL prog E P [] []
  | tmp {t : Tmp} {v : Value} {rs : List ResultVar} {vs : List Value} (h : Env.get E t = some v) (k : ResL prog E P rs vs) : ResL prog E P (.tmp t :: rs) (v :: vs)
  | one {r : Tmp} {ty : TypeId} {b o : Nat} {v : Value} {rs : List ResultVar} {vs : List Value} [One prog ty] (h : Env.get E r = some (.pointer (some (ad b o)))) (hr : Rd P b o v) (k : ResL prog E P rs vs) : ResL prog E P (.cell r ty :: rs) (v :: vs)
  | agg {r : Tmp} {ty : TypeId} {b m : Nat} {l : List Value} {te : TypeId} {R : HProp} {rs : List ResultVar} {vs : List Value} [Agg prog ty m] [Look P b l te R] (h : Env.get E r = some (.pointer (some (ad b 0)))) (hl : l.length = m) (k : ResL prog E P rs vs) : ResL prog E P (.cell r ty :: rs) (.agg l.toArray :: vs)
def resF (a : Act) : ResultVar → Sem Value
  | .tmp t => pure (a.tmps.getD t undef)
  | .cell r t => do loadVar t (← asAddr (a.tmps.getD r undef))
theorem ResL.run {rs : List ResultVar} {vs : List Value} (h : ResL prog E P rs vs) {a : Act} {w : World} (ha : Agree n E a) (hs : Sat σ w P) : (rs.mapM (resF a)).run prog w = .ok vs w := by
  have step : ∀ {r : ResultVar} {v : Value} {rs : List ResultVar} {vs : List Value}, (resF a r).run prog w = .ok v w → (rs.mapM (resF a)).run prog w = .ok vs w → ((r :: rs).mapM (resF a)).run prog w = .ok (v :: vs) w := fun h1 h2 => by
    simp only [List.mapM_cons, Sem.run_bind, h1, h2, Result.andThen_ok, Sem.run_pure]
  have slot : ∀ {t : Tmp} {v : Value}, Env.get E t = some v → a.tmps.getD t undef = v := fun h => by rw [Array.getD_eq_getD_getElem?, ha.slot _ _ h]; rfl
  induction h with
  | nil => simp
  | tmp h k ih => exact step (by simp only [resF, slot h, Sem.run_pure]) ih
  | @one r ty b o v rs vs _ h hr k ih =>
    obtain ⟨dd, i, h1, h2, h3, h4⟩ := One.spec (prog := prog) ty
    have hl : (loadVar ty (ad b o)).run prog w = .ok v w := by simp only [loadVar, Sem.run_bind, run_isAgg' h1, h2, Result.andThen_ok, Bool.false_eq_true, if_false, run_load, hr σ w hs]
    exact step (by simp only [resF, slot h, asAddr, Sem.run_bind, Sem.run_pure, Result.andThen_ok, hl]) ih
  | @agg r ty b m l te R rs vs _ hk h hl k ih =>
    have hlv := run_loadVar_look (prog := prog) (tr := ty) (hk := hk) hl hs
    exact step (by simp only [resF, slot h, asAddr, Sem.run_bind, Sem.run_pure, Result.andThen_ok, hlv]) ih
def tup : List Value → Value
  | [v] => v
  | vs => .tuple vs.toArray
theorem tup_eq (vs : List Value) : (if h : vs.toArray.size = 1 then vs.toArray[0] else .tuple vs.toArray) = tup vs := by
  match vs with
  | [] => rfl
  | [v] => rfl
  | _ :: _ :: l => simp [tup]
theorem K_rets {fn : Func} {rs : List ResultVar} {vs : List Value} {X : Type} {φ : X → Prop} {val : X → Value} {Qo : X → HProp} (hr : fn.results = rs.toArray) (h : ResL prog E P rs vs) (x : X) (hx : φ x) (hv : tup vs = val x) (hp : Ent P (sep (Qo x) (F))) :
    K σ n (bodyPost prog fn (Back σ φ val Qo F)) .ret E P := fun a w ha hs => by
  refine ⟨ha.defers, tup vs, ?_, x, hx, by rw [hv], hs.ent hp⟩
  have h1 := h.run ha hs
  have e : results fn a.tmps = (do let vs ← fn.results.mapM (resF a); pure (if h : vs.size = 1 then vs[0] else .tuple vs)) := by
    unfold results
    congr 2
  rw [e, hr, Sem.run_bind, Array.mapM_eq_mapM_toList, Sem.run_map, h1]
  simp only [Result.andThen_ok, Sem.run_pure]
  rw [← tup_eq]
theorem K_ends {fn : Func} {rs : List ResultVar} {vs : List Value} {X : Type} {φ : X → Prop} {val : X → Value} {Qo : X → HProp} (hr : fn.results = rs.toArray) (h : ResL prog E P rs vs) (x : X) (hx : φ x) (hv : tup vs = val x) (hp : Ent P (sep (Qo x) (F))) :
    K σ n (bodyPost prog fn (Back σ φ val Qo F)) .normal E P := K_rets hr h x hx hv hp
/-! ### Methods of interfaces, type assertions -/
theorem opx_inv {d : Nat} {recv : Operand} {name : String} {args : Array Operand} {tys : Array TypeId} {ty : TypeId} {pos : String} {aft : Array Edge} {g : Option (Nat × Bool)} {f : FuncId} {rv : Value} {vs : List Value} {ws : Array Value} {P0 : HProp} {X : Type} {φ : X → Prop} {val : X → Value} {Qo : X → HProp}
    (hs : FSpec prog f ws P0 φ val Qo) (hr : ev E recv = some rv) (hv : evl E args.toList = some vs) (hm : ∀ w, (callMethod rv name vs.toArray).run prog w = .ok (.enter f ws) w) (hd : Nat.blt d n = true) [hT : Take P P0 R] :
    OpX prog σ n E P ⟨some d, .call ⟨.invoke recv name, args, tys⟩, ty, pos, aft, g⟩ φ (fun x => (d, val x) :: E) (fun x => (sep (Qo x) (R))) := by
  intro a w ha hw' Kn Q' hk
  have hrun : (execOp a.eval ⟨some d, .call ⟨.invoke recv name, args, tys⟩, ty, pos, aft, g⟩).run prog w = .ok (.enter f ws) w := by
    have h1 : (#[a.eval recv] ++ args.map a.eval) = #[rv] ++ vs.toArray := by rw [ha.ev hr, ha.evls hv]
    simp only [execOp, resolve, Sem.run_bind, Sem.run_pure, Result.andThen_ok, invoke, h1]
    have h2 : (#[rv] ++ vs.toArray)[0]? = some rv := by simp
    have h3 : (#[rv] ++ vs.toArray).extract 1 (#[rv] ++ vs.toArray).size = vs.toArray := by simp
    simp only [h2, h3]
    exact hm w
  unfold Oper.wp
  rw [hrun, Oper.upon_enter]
  rw [hT.eq] at hw'
  refine (hs σ w R hw').mono ?_
  rintro e w'' ⟨x, hx, rfl, hx'⟩
  exact hk x _ _ hx (ha.put (Nat.le_of_ble_eq_true hd) _) hx'
theorem opv_ta {d : Option Tmp} {ty : TypeId} {pos : String} {aft : Array Edge} {g : Option (Nat × Bool)} {x : Operand} {xt at' : TypeId} {ok : Bool} {u : Value} (v : Value) (hx : ev E x = some u) (hm : ∀ w, (Instr.typeAssert u xt at' ok).run prog w = .ok v w) :
    OpV prog σ n E P ⟨d, .typeAssert x xt at' ok, ty, pos, aft, g⟩ v := fun _ w ha _ => by simp only [execOp, ha.ev hx, Sem.run_bind, hm w, Result.andThen_ok, Sem.run_pure]
/-! ### Drawn regions -/
section
variable {S0 S : HProp} {B : List Nat} {fuel : Nat} {listed : Array Bool}
def tkB (ops : Array Oper) (B : List Nat) (listed : Array Bool) (i : Nat) : Bool := Region.noSelect ops && Region.free .any ops listed i && (Region.ready .any ops listed).contains i && waitsAll ops B i && clearB B listed
def puB (ops : Array Oper) (B : List Nat) (listed : Array Bool) (i : Nat) : Bool := Region.noSelect ops && Region.free .any ops listed i && (Region.ready .any ops listed).contains i && !B.contains i
def onB (ops : Array Oper) (B : List Nat) (listed : Array Bool) (i : Nat) : Bool := (Region.ready .any ops listed == [i]) && !clearB B (listed.setIfInBounds i true)
/-- The same, behind one of B. -/
theorem R_q (i : Nat) {d : Nat} {op : Op} {ty : TypeId} {pos : String} {aft : Array Edge} {v : Value} {R0 : HProp} [NP Q] [h0 : Take P S0 R0] (hi : ops[i]? = some ⟨some d, op, ty, pos, aft, none⟩) (hk : (puB ops B listed i && !clearB B listed) = true) (h : OpV prog σ n E S0 ⟨some d, op, ty, pos, aft, none⟩ v) (hd : Nat.blt d n = true)
    (k : Rg prog σ n ops Q S0 S B fuel (listed.setIfInBounds i true) ((d, v) :: E) P) : Rg prog σ n ops Q S0 S B (fuel + 1) listed E P := by
  simp only [puB, Bool.and_eq_true, Bool.not_eq_true'] at hk
  exact R_pure i hi hk.1.1.1.1 hk.1.1.1.2 hk.1.1.2 hk.1.2 (.inl hk.2) h hd k
/-- The only one that may come up, one of B. -/
theorem R_o (i : Nat) {o : Oper} {X : Type} {φ : X → Prop} {E' : X → Env} {P' R' : X → HProp} (hi : ops[i]? = some o) (hg : o.guard = none) (hk : onB ops B listed i = true) (h : OpX prog σ n E P o φ E' P') [hS0 : ∀ x, Take (P' x) S0 (R' x)]
    (k : ∀ x, φ x → Rg prog σ n ops Q S0 S B fuel (listed.setIfInBounds i true) (E' x) (P' x)) : Rg prog σ n ops Q S0 S B (fuel + 1) listed E P := by
  simp only [onB, Bool.and_eq_true, Bool.not_eq_true'] at hk
  exact R_only i hi hg (eq_of_beq hk.1) h (fun x _ => ⟨_, (hS0 x).eq⟩) (.inl hk.2) k
/-- An only one that yields a value, behind one of B. -/
theorem R_v (i : Nat) {d : Nat} {op : Op} {ty : TypeId} {pos : String} {aft : Array Edge} {v : Value} {R0 : HProp} [h0 : Take P S0 R0] (hi : ops[i]? = some ⟨some d, op, ty, pos, aft, none⟩) (hk : onB ops B listed i = true) (h : OpV prog σ n E P ⟨some d, op, ty, pos, aft, none⟩ v) (hd : Nat.blt d n = true)
    (k : Rg prog σ n ops Q S0 S B fuel (listed.setIfInBounds i true) ((d, v) :: E) P) : Rg prog σ n ops Q S0 S B (fuel + 1) listed E P := by
  simp only [onB, Bool.and_eq_true, Bool.not_eq_true'] at hk
  exact R_only i hi rfl (eq_of_beq hk.1) (h.opx rfl hd) (fun x _ => ⟨_, h0.eq⟩) (.inl hk.2) fun _ _ => k
/-- Of several that may come up: each is to be shown. -/
def Alt (prog : Program) (σ : World) (n : Nat) (ops : Array Oper) (Q : Exit → Act → World → Prop) (S0 S : HProp) (B : List Nat) (fuel : Nat) (listed : Array Bool) (E : Env) (P : HProp) (i : Nat) : Prop :=
  ∃ (o : Oper) (X : Type) (φ : X → Prop) (E' : X → Env) (P' : X → HProp), ops[i]? = some o ∧ o.guard = none ∧ OpX prog σ n E P o φ E' P' ∧ ∀ x, φ x → (∃ R', P' x = (sep (S0) (R'))) ∧ (clearB B (listed.setIfInBounds i true) = false ∨ ∃ R', P' x = (sep (S) (R'))) ∧ Rg prog σ n ops Q S0 S B fuel (listed.setIfInBounds i true) (E' x) (P' x)
theorem R_a (rs : List Nat) (hr : Region.ready .any ops listed = rs) (hne : rs.isEmpty = false) (h : ∀ i, i ∈ rs → Alt prog σ n ops Q S0 S B fuel listed E P i) : Rg prog σ n ops Q S0 S B (fuel + 1) listed E P := R_all rs hr hne h
theorem R_ax {i : Nat} {o : Oper} {X : Type} {φ : X → Prop} {E' : X → Env} {P' R' : X → HProp} (hi : ops[i]? = some o) (hg : o.guard = none) (hk : (!clearB B (listed.setIfInBounds i true)) = true) (h : OpX prog σ n E P o φ E' P') [hS0 : ∀ x, Take (P' x) S0 (R' x)]
    (k : ∀ x, φ x → Rg prog σ n ops Q S0 S B fuel (listed.setIfInBounds i true) (E' x) (P' x)) : Alt prog σ n ops Q S0 S B fuel listed E P i :=
  ⟨o, X, φ, E', P', hi, hg, h, fun x hx => ⟨⟨_, (hS0 x).eq⟩, .inl (by simpa using hk), k x hx⟩⟩
/-! S stands by itself: what is loaded and written later, by the operations of B alone. -/
theorem R_ts (i : Nat) {d : Nat} {op : Op} {ty : TypeId} {pos : String} {aft : Array Edge} {v : Value} {R0 : HProp} [NP Q] [hS : Take P S R] [h0 : Take P S0 R0] (hi : ops[i]? = some ⟨some d, op, ty, pos, aft, none⟩) (hk : tkB ops B listed i = true) (h : OpV prog σ n E S ⟨some d, op, ty, pos, aft, none⟩ v) (hd : Nat.blt d n = true)
    (k : Rg prog σ n ops Q S0 S B fuel (listed.setIfInBounds i true) ((d, v) :: E) P) : Rg prog σ n ops Q S0 S B (fuel + 1) listed E P := by
  simp only [tkB, Bool.and_eq_true] at hk
  exact R_take i hi hk.1.1.1.1 hk.1.1.1.2 hk.1.1.2 hk.1.2 hk.2 h hd k
theorem R_ps (i : Nat) {d : Nat} {op : Op} {ty : TypeId} {pos : String} {aft : Array Edge} {v : Value} {R0 : HProp} [NP Q] [hS : Take P S R] [h0 : Take P S0 R0] (hi : ops[i]? = some ⟨some d, op, ty, pos, aft, none⟩) (hk : puB ops B listed i = true) (h : OpV prog σ n E S0 ⟨some d, op, ty, pos, aft, none⟩ v) (hd : Nat.blt d n = true)
    (k : Rg prog σ n ops Q S0 S B fuel (listed.setIfInBounds i true) ((d, v) :: E) P) : Rg prog σ n ops Q S0 S B (fuel + 1) listed E P := by
  simp only [puB, Bool.and_eq_true, Bool.not_eq_true'] at hk
  exact R_pure i hi hk.1.1.1 hk.1.1.2 hk.1.2 hk.2 (.inr ⟨_, hS.eq⟩) h hd k
theorem R_psG (i : Nat) {d j t : Nat} {want : Bool} {op : Op} {ty : TypeId} {pos : String} {aft : Array Edge} {v : Value} {R0 : HProp} [NP Q] [hS : Take P S R] [h0 : Take P S0 R0] (hi : ops[i]? = some ⟨some d, op, ty, pos, aft, some (j, want)⟩) (hk : puB ops B listed i = true) (hj : (ops[j]?).bind (·.dst) = some t) (hb : Env.get E t = some (.bool want))
    (h : OpV prog σ n E S0 ⟨some d, op, ty, pos, aft, none⟩ v) (hd : Nat.blt d n = true) (k : Rg prog σ n ops Q S0 S B fuel (listed.setIfInBounds i true) ((d, v) :: E) P) : Rg prog σ n ops Q S0 S B (fuel + 1) listed E P := by
  simp only [puB, Bool.and_eq_true, Bool.not_eq_true'] at hk
  exact R_pureG i hi hk.1.1.1 hk.1.1.2 hk.1.2 hk.2 (.inr ⟨_, hS.eq⟩) hj hb h hd k
/-- The only one that may come up, none of B: S stays. -/
theorem R_n (i : Nat) {o : Oper} {X : Type} {φ : X → Prop} {E' : X → Env} {P' R' R2 : X → HProp} (hi : ops[i]? = some o) (hg : o.guard = none) (hk : (Region.ready .any ops listed == [i]) = true) (h : OpX prog σ n E P o φ E' P') [hS0 : ∀ x, Take (P' x) S0 (R' x)] [hS : ∀ x, Take (P' x) S (R2 x)]
    (k : ∀ x, φ x → Rg prog σ n ops Q S0 S B fuel (listed.setIfInBounds i true) (E' x) (P' x)) : Rg prog σ n ops Q S0 S B (fuel + 1) listed E P :=
  R_only i hi hg (eq_of_beq hk) h (fun x _ => ⟨_, (hS0 x).eq⟩) (.inr fun x _ => ⟨_, (hS x).eq⟩) k
theorem R_nG (i : Nat) {d : Option Tmp} {j t : Nat} {want : Bool} {op : Op} {ty : TypeId} {pos : String} {aft : Array Edge} {X : Type} {φ : X → Prop} {E' : X → Env} {P' R' R2 : X → HProp} (hi : ops[i]? = some ⟨d, op, ty, pos, aft, some (j, want)⟩) (hk : (Region.ready .any ops listed == [i]) = true) (hj : (ops[j]?).bind (·.dst) = some t) (hb : Env.get E t = some (.bool want))
    (h : OpX prog σ n E P ⟨d, op, ty, pos, aft, none⟩ φ E' P') [hS0 : ∀ x, Take (P' x) S0 (R' x)] [hS : ∀ x, Take (P' x) S (R2 x)] (k : ∀ x, φ x → Rg prog σ n ops Q S0 S B fuel (listed.setIfInBounds i true) (E' x) (P' x)) : Rg prog σ n ops Q S0 S B (fuel + 1) listed E P :=
  R_onlyG i hi hj hb (eq_of_beq hk) h (fun x _ => ⟨_, (hS0 x).eq⟩) (.inr fun x _ => ⟨_, (hS x).eq⟩) k
theorem R_an {i : Nat} {o : Oper} {X : Type} {φ : X → Prop} {E' : X → Env} {P' R' R2 : X → HProp} (hi : ops[i]? = some o) (hg : o.guard = none) (h : OpX prog σ n E P o φ E' P') [hS0 : ∀ x, Take (P' x) S0 (R' x)] [hS : ∀ x, Take (P' x) S (R2 x)]
    (k : ∀ x, φ x → Rg prog σ n ops Q S0 S B fuel (listed.setIfInBounds i true) (E' x) (P' x)) : Alt prog σ n ops Q S0 S B fuel listed E P i :=
  ⟨o, X, φ, E', P', hi, hg, h, fun x hx => ⟨⟨_, (hS0 x).eq⟩, .inr ⟨_, (hS x).eq⟩, k x hx⟩⟩
theorem R_avs {i d : Nat} {op : Op} {ty : TypeId} {pos : String} {aft : Array Edge} {v : Value} {R0 : HProp} [hS : Take P S R] [h0 : Take P S0 R0] (hi : ops[i]? = some ⟨some d, op, ty, pos, aft, none⟩) (h : OpV prog σ n E P ⟨some d, op, ty, pos, aft, none⟩ v) (hd : Nat.blt d n = true)
    (k : Rg prog σ n ops Q S0 S B fuel (listed.setIfInBounds i true) ((d, v) :: E) P) : Alt prog σ n ops Q S0 S B fuel listed E P i :=
  ⟨_, Unit, fun _ => True, fun _ => (d, v) :: E, fun _ => P, hi, rfl, h.opx rfl hd, fun _ _ => ⟨⟨_, h0.eq⟩, .inr ⟨_, hS.eq⟩, k⟩⟩
end
end Go.SLA
namespace Go.SLA
attribute [local instance] Classical.propDecidable
variable {prog : Program} {σ : World} {n : Nat} {Q : Exit → Act → World → Prop} {E E' : Env} {P P' R F : HProp} {ops : Array Oper} {rest : List Oper}
section
variable {d : Nat} {ty : TypeId} {pos : String} {aft : Array Edge} {g : Option (Nat × Bool)} {x y : Operand} {t t' : TypeId}
theorem fill_many (m : Nat) : ∀ (vs : List Value) (k : Nat) (l : List Value), (∀ v ∈ vs, v.cells.toList.length = m) → (k + vs.length) * m ≤ l.length →
    Instr.fill (fun i => some (i * m, m)) l.toArray (nums k vs) = some (l.take (k * m) ++ vs.flatMap (fun v => v.cells.toList) ++ l.drop ((k + vs.length) * m)).toArray
  | [], k, l, _, _ => by simp [nums, Instr.fill]
  | v :: vs, k, l, h, hk => by
    simp only [List.length_cons] at hk
    have hv := h v (by simp)
    have hkm : k * m + m ≤ l.length := by
      have : (k + 1) * m ≤ (k + (vs.length + 1)) * m := Nat.mul_le_mul_right _ (by omega)
      rw [Nat.add_mul, Nat.one_mul] at this
      omega
    rw [nums, fill_cons (o := k * m) (m := m) (vs := v.cells.toList) rfl rfl hv hkm]
    have hl2 : (l.take (k * m) ++ v.cells.toList ++ l.drop (k * m + m)).length = l.length := by simp [hv]; omega
    rw [fill_many m vs (k + 1) _ (fun u hu => h u (by simp [hu])) (by rw [hl2]; rw [show k + 1 + vs.length = k + (vs.length + 1) by omega]; exact hk)]
    congr 2
    have t1 : (l.take (k * m) ++ v.cells.toList ++ l.drop (k * m + m)).take ((k + 1) * m) = l.take (k * m) ++ v.cells.toList := by
      rw [List.take_left' (by rw [List.length_append, List.length_take, hv, Nat.min_eq_left (by omega), Nat.add_mul, Nat.one_mul])]
    have t2 : (l.take (k * m) ++ v.cells.toList ++ l.drop (k * m + m)).drop ((k + 1 + vs.length) * m) = l.drop ((k + (vs.length + 1)) * m) := by
      rw [show (k + 1 + vs.length) * m = (k * m + m) + vs.length * m by simp only [Nat.add_mul, Nat.one_mul], ← List.drop_drop, List.drop_left' (by simp [hv]; omega), List.drop_drop]
      congr 1
      simp only [Nat.add_mul, Nat.one_mul]
      omega
    rw [t1, t2, List.length_cons]
    simp
class FlatC (vs : List Value) (l : outParam (List Value)) : Prop where
  eq : vs.flatMap (fun v => v.cells.toList) = l
instance : FlatC [] [] := ⟨rfl⟩
instance {v : Value} {vs l1 l2 l3 : List Value} [h1 : Cel v l1] [h2 : FlatC vs l2] [h3 : AppL l1 l2 l3] : FlatC (v :: vs) l3 := ⟨by rw [List.flatMap_cons, h1.c, h2.eq]; exact h3.eq⟩
theorem opx_buildSliceM {e m len : Nat} {zs l : List Value} {parts : Array (Nat × Operand)} {vs : List Value} [Slc prog t e m] [Zer prog e zs] (he : evl E (parts.toList.map (·.2)) = some vs) (hi : parts.toList.map (·.1) = List.range' 0 parts.toList.length) (hl : vs.length = len)
    (hc : (vs.all fun v => Nat.beq v.cells.toList.length m) = true) [hf : FlatC vs l] (hlen : decide (0 < len * m ∧ len * m ≤ 16777216) = true) (hd : Nat.blt d n = true) :
    OpX prog σ n E P ⟨some d, .buildSlice t len parts, ty, pos, aft, g⟩ (fun _ : Nat => True) (fun b => (d, .slice (some (ad b 0)) len len) :: E) (fun b => (sep (cel b l e) (P))) := by
  refine OpX.of_run rfl hd fun a w ha hs => ?_
  have he' : evp E parts.toList = some (nums 0 vs) := evp_nums _ 0 vs he hi
  obtain ⟨hu, i, hi, hsz⟩ := Slc.spec (prog := prog) t e m
  obtain ⟨i', z, h1', h2, h3⟩ := Zer.spec (prog := prog) e zs
  have hlen := of_decide_eq_true hlen
  refine ⟨w.heap.size, w.alloc (.cells l.toArray e), trivial, ?_, hs.alloc _⟩
  have hps : (parts.map fun x => (x.1, a.eval x.2)) = (nums 0 vs).toArray := by rw [← ha.evp he']; exact Array.toList_inj.1 (by rw [Array.toList_map])
  have hff : ∀ zc : Array Value, Instr.fill (fun i => some (i * m, m)) ((Array.range (len * m)).map (zc[· % zc.size]!)) (nums 0 vs) = some l.toArray := fun zc => by
    have := fill_many m vs 0 ((Array.range (len * m)).map (zc[· % zc.size]!)).toList (fun v hv => Nat.eq_of_beq_eq_true (List.all_eq_true.1 hc v hv)) (by simp [hl])
    rw [Array.toArray_toList] at this
    rw [this, hf.eq]
    simp [hl]
  have hsz' : (sizeOf e).run prog w = .ok m w := by rw [run_sizeOf' hi, hsz]
  have hle : ¬ (len * m > 2 ^ 24) := by omega
  have h0 : ¬ (len * m = 0) := by omega
  simp only [execOp, Instr.buildSlice, Sem.run_bind, run_und' hu, Result.andThen_ok, hsz', hle, if_false, Sem.run_ite, Sem.run_pure, hps, h0, zeroValue, run_typeInfo' h1', h2, hff, newRow, run_newObj]
  rfl
end
theorem opv_eSl {d : Option Nat} {ty : TypeId} {pos : String} {aft : Array Edge} {g : Option (Nat × Bool)} {x : Operand} {t t' e m : Nat} {p : Option Addr} {l c : Nat} {r : Bool} [h : Slc prog t e m] (hx : ev E x = some (.slice p l c)) (hr : p.isNone = r) : OpV prog σ n E P ⟨d, .binOp .eql t x (.const (.slice none 0 0)) t', ty, pos, aft, g⟩ (.bool r) := fun _ w ha hw => by
  obtain ⟨hu, _⟩ := Slc.spec (prog := prog) t e m
  subst hr
  simp only [execOp, ha.ev hx, ha.ev (show ev E (.const (.slice none 0 0)) = some (.slice none 0 0) from rfl)]
  rw [show eqGuard .eql t x (.const (.slice none 0 0)) (.slice p l c) (.slice none 0 0) = pure () from rfl, show binOp .eql t (.slice p l c) (.slice none 0 0) = (do pure (.bool (← Op.equal t (.slice p l c) (.slice none 0 0)))) from by cases p <;> rfl]
  have : (Op.equal t (.slice p l c) (.slice none 0 0)).run prog w = .ok p.isNone w := by
    show (Op.equalIn (9999 + 1) t (.slice p l c) (.slice none 0 0)).run prog w = _
    generalize 9999 = dep
    unfold Op.equalIn
    rw [Sem.run_bind, run_und' hu, Result.andThen_ok]
    cases p <;> rfl
  simp [this]
class GetL (l : List Value) (i : Nat) (v : outParam Value) : Prop where
  eq : l[i]? = some v
instance {x : Value} {l : List Value} : GetL (x :: l) 0 x := ⟨rfl⟩
instance {x v : Value} {l : List Value} {i : Nat} [h : GetL l i v] : GetL (x :: l) (i + 1) v := ⟨by rw [List.getElem?_cons_succ, h.eq]⟩
theorem opv_ex {d : Option Tmp} {ty : TypeId} {pos : String} {aft : Array Edge} {g : Option (Nat × Bool)} {x : Operand} {l : List Value} {i : Nat} {v : Value} (hx : ev E x = some (.tuple l.toArray)) [h : GetL l i v] : OpV prog σ n E P ⟨d, .extract x i, ty, pos, aft, g⟩ v :=
  opv_extract hx (by rw [List.getElem?_toArray]; exact h.eq)
theorem opv_hm {d : Option Tmp} {ty : TypeId} {pos : String} {aft : Array Edge} {g : Option (Nat × Bool)} {x hi mx : Operand} {t e m b o len cap e' m' : Nat} {k k' : IntKind} {i j : Int} {l : List Value} (p q : Nat) [Slc prog t e m] (hx : ev E x = some (.slice (some (ad b o)) len cap)) [hT : LookO P b o e' m' len cap l R]
    (hh : ev E hi = some (.int k i)) (hj : ev E mx = some (.int k' j)) (h : decide (0 ≤ i ∧ i ≤ j ∧ j ≤ len) = true) (hp : i.toNat = p) (hq : j.toNat = q) : OpV prog σ n E P ⟨d, .slice t x none (some hi) (some mx), ty, pos, aft, g⟩ (.slice (some (ad b o)) p q) := fun a w ha hw => by
  have hw' := hw
  rw [hT.eq] at hw'
  obtain ⟨A, c, hv, hlc, _⟩ := own_val hw'
  simp only [Value.slice.injEq] at hv
  obtain ⟨_, _, rfl⟩ := hv
  have h := of_decide_eq_true h
  have h2 := opv_sliceLhm (prog := prog) (σ := σ) (n := n) (P := P) (d := d) (ty := ty) (pos := pos) (aft := aft) (g := g) (t := t) hx hh hj ⟨h.1, h.2.1, by omega⟩ a w ha hw
  rw [h2, hp, hq, cutV_at]
  simp
theorem opv_hm0 {d : Option Tmp} {ty : TypeId} {pos : String} {aft : Array Edge} {g : Option (Nat × Bool)} {x hi mx : Operand} {t e m b o len cap : Nat} {k k' : IntKind} [Slc prog t e m] (hx : ev E x = some (.slice (some (ad b o)) len cap)) (hh : ev E hi = some (.int k 0)) (hj : ev E mx = some (.int k' 0)) :
    OpV prog σ n E P ⟨d, .slice t x none (some hi) (some mx), ty, pos, aft, g⟩ (.slice (some (ad b o)) 0 0) := fun a w ha hw => by
  have h2 := opv_sliceLhm (prog := prog) (σ := σ) (n := n) (P := P) (d := d) (ty := ty) (pos := pos) (aft := aft) (g := g) (t := t) hx hh hj ⟨by decide, by decide, by omega⟩ a w ha hw
  rw [h2, cutV_at]
  simp
theorem opv_ct0 {d : Option Tmp} {ty : TypeId} {pos : String} {aft : Array Edge} {g : Option (Nat × Bool)} {x lo : Operand} {t e m b o len cap : Nat} {k : IntKind} [Slc prog t e m] (hx : ev E x = some (.slice (some (ad b o)) len cap)) (hl : ev E lo = some (.int k 0)) :
    OpV prog σ n E P ⟨d, .slice t x (some lo) none none, ty, pos, aft, g⟩ (.slice (some (ad b o)) len cap) := fun a w ha hw => by
  have h2 := opv_sliceLlo (prog := prog) (σ := σ) (n := n) (P := P) (d := d) (ty := ty) (pos := pos) (aft := aft) (g := g) (t := t) hx hl ⟨by decide, by omega⟩ a w ha hw
  rw [h2, cutV_at]
  simp
/-! ### m[k]++ -/
variable {d : Option Nat} {ty : TypeId} {pos : String} {aft : Array Edge} {g : Option (Nat × Bool)} {x y z : Operand} {t kt : TypeId} {ks : List CK} {r : Nat} {f : List Value → Option Value} {k : List Value} {v u zv : Value} {s : Int}
class LookQ (P : HProp) (r : Nat) (ks : outParam (List CK)) (f : outParam (List Value → Option Value)) (R : outParam HProp) : Prop where
  eq : P = (sep (mapq r ks f) (R))
instance (priority := 100) {A P R : HProp} {r : Nat} {ks : List CK} {f : List Value → Option Value} [h : LookQ P r ks f R] : LookQ (sep (A) (P)) r ks f (sep (A) (R)) := ⟨by rw [h.eq, sep_left_comm]⟩
instance (priority := 150) {A B P R : HProp} {r : Nat} {ks : List CK} {f : List Value → Option Value} [h : LookQ (sep (A) (sep (B) (P))) r ks f R] : LookQ (sep ((sep (A) (B))) (P)) r ks f R := ⟨by rw [sep_assoc]; exact h.eq⟩
instance (priority := 200) {r : Nat} {ks : List CK} {f : List Value → Option Value} {R : HProp} : LookQ (sep (mapq r ks f) (R)) r ks f R := ⟨rfl⟩
theorem opv_lookQ [hm : MapZ prog t kt zv] [EqT prog kt ks] {ok : Bool} (hx : ev E x = some (.map (some r))) (hy : ev E y = some (.agg k.toArray)) [hT : LookQ P r ks f R] (hk : Shape ks k) (fo : Option Value) (hf : f k = fo)
    (hv : (bif ok then .tuple #[fo.getD zv, .bool fo.isSome] else fo.getD zv) = v) : OpV prog σ n E P ⟨d, .lookup t x y ok, ty, pos, aft, g⟩ v := fun _ w ha hw => by
  rw [hT.eq] at hw
  have := lookup_runq (prog := prog) (t := t) hk hw ok
  simp only [execOp, ha.ev hx, ha.ev hy, Sem.run_bind, this, Result.andThen_ok, Sem.run_pure]
  rw [hf, ← hv]
  cases ok <;> rfl
/-- A map of which an entry is being written: what it holds meanwhile, and its stamp. -/
def mape (r : Nat) (ks : List CK) (f : List Value → Option Value) (k : List Value) (v0 : Value) (s : Int) : HProp := ex fun x : (Array MapEntry × Nat) × Nat =>
  (sep (lift ((MapOk ks x.1.1.toList (mput f k v0) ∧ BornOk x.1.1.toList x.1.2) ∧ ∃ e, x.1.1.toList[x.2]? = some e ∧ e.key = .agg k.toArray ∧ (e.born : Int) = s)) (blk r (.map x.1.1 x.1.2)))
theorem opx_mapEntryQ {d : Nat} [hm : MapZ prog t kt zv] [EqT prog kt ks] (hx : ev E x = some (.map (some r))) (hy : ev E y = some (.agg k.toArray)) [hT : LookQ P r ks f R] (hk : Shape ks k) (v0 : Value) (hv0 : (f k).getD zv = v0) (hd : Nat.blt d n = true) :
    OpX prog σ n E P ⟨some d, .mapEntry t x y, ty, pos, aft, g⟩ (fun _ : Int => True) (fun q => (d, .tuple #[v0, .int .i64 q]) :: E) (fun q => (sep (mape r ks f k v0 q) (R))) := by
  refine OpX.of_run rfl hd fun a w ha hw => ?_
  rw [hT.eq] at hw
  obtain ⟨e, h1, h2⟩ := hm.spec
  obtain ⟨es, clk, hb, ho, hbo, hw'⟩ := sat_mapq hw
  have hck := EqT.check (prog := prog) (t := kt) hk false w
  have fin : ∀ (es' : Array MapEntry) (clk' i : Nat) (e' : MapEntry), MapOk ks es'.toList (mput f k v0) → BornOk es'.toList clk' → es'.toList[i]? = some e' → e'.key = .agg k.toArray → 
      Sat σ { w with heap := w.heap.setIfInBounds r (.map es' clk') } (sep (mape r ks f k v0 e'.born) (R)) := fun es' clk' i e' q1 q2 q3 q4 => by
    have h := sat_setC (es' := es') (c' := clk') hw'
    refine h.ent (Ent.frame ?_ R)
    exact Ent.trans (Ent.lift (p := (MapOk ks es'.toList (mput f k v0) ∧ BornOk es'.toList clk') ∧ ∃ e, es'.toList[i]? = some e ∧ e.key = .agg k.toArray ∧ (e.born : Int) = e'.born) ⟨⟨q1, q2⟩, e', q3, q4, rfl⟩) (Ent.exo (f := fun x : (Array MapEntry × Nat) × Nat => (sep (lift ((MapOk ks x.1.1.toList (mput f k v0) ∧ BornOk x.1.1.toList x.1.2) ∧ ∃ e, x.1.1.toList[x.2]? = some e ∧ e.key = .agg k.toArray ∧ (e.born : Int) = e'.born)) (blk r (.map x.1.1 x.1.2)))) ((es', clk'), i))
  rcases findKey_run (prog := prog) (t := kt) hk w ho with ⟨h3, hn, h4⟩ | ⟨j, e', h3, h5, h6, hs⟩
  · have hz : zv = v0 := by rw [← hv0, hn]; rfl
    subst hz
    refine ⟨clk, _, trivial, ?_, fin (es.push { key := .agg k.toArray, val := zv, born := clk }) (clk + 1) es.size { key := .agg k.toArray, val := zv, born := clk } (by rw [Array.toList_push]; exact ho.put_new hk h4 zv) (by rw [Array.toList_push]; exact hbo.push _ rfl) (by simp) rfl⟩
    simp only [execOp, ha.ev hx, ha.ev hy, Instr.mapEntry, Sem.run_bind, run_underlying h1, Result.andThen_ok, run_getObj_map w r es clk hb, hck, h3, h2 w, run_setMap _ hb, Sem.run_pure]
    rfl
  · have h7 : (es[j]?.map (·.key)).getD (.agg k.toArray) = .agg k.toArray := by
      rw [← Array.getElem?_toList, h5]
      exact h6
    have h8 : (es[j]?.map (fun x => (x.born : Int))).getD 0 = (e'.born : Int) := by rw [← Array.getElem?_toList, h5]; rfl
    have h9 : es.modify j (fun e => { e with key := .agg k.toArray }) = es.modify j (fun e => { e with key := .agg k.toArray, val := e'.val }) := by
      apply Array.ext_getElem?
      intro i
      rw [Array.getElem?_modify, Array.getElem?_modify]
      by_cases hij : j = i
      · subst hij
        rw [← Array.getElem?_toList, h5]
        simp
      · simp [hij]
    have hz : e'.val = v0 := by rw [← hv0, hs]; rfl
    subst hz
    refine ⟨(e'.born : Int), _, trivial, ?_, fin (es.modify j fun e => { e with key := .agg k.toArray, val := e'.val }) clk j { e' with key := .agg k.toArray, val := e'.val } (by rw [Array.toList_modify]; exact ho.put_at hk h5 h6 e'.val) (by rw [Array.toList_modify]; exact hbo.modify _ fun _ => rfl) (by rw [Array.toList_modify, List.getElem?_modify, h5]; simp) rfl⟩
    simp only [execOp, ha.ev hx, ha.ev hy, Instr.mapEntry, Sem.run_bind, run_underlying h1, Result.andThen_ok, run_getObj_map w r es clk hb, hck, h3, h7, keyStays_run (prog := prog) hk w, run_setMap _ hb, Sem.run_pure, h8, h9]
    rfl
class LookE (P : HProp) (r : Nat) (ks : outParam (List CK)) (f : outParam (List Value → Option Value)) (k : outParam (List Value)) (u : outParam Value) (s : outParam Int) (R : outParam HProp) : Prop where
  eq : P = (sep (mape r ks f k u s) (R))
instance (priority := 200) {r : Nat} {s : Int} {ks : List CK} {f : List Value → Option Value} {k : List Value} {u : Value} {R : HProp} : LookE (sep (mape r ks f k u s) (R)) r ks f k u s R := ⟨rfl⟩
theorem opv_lookE {k2 : List Value} [hm : MapZ prog t kt zv] [EqT prog kt ks] {ok : Bool} (hx : ev E x = some (.map (some r))) (hy : ev E y = some (.agg k2.toArray)) [hT : LookE P r ks f k u s R] (hk : Shape ks k2) (fo : Option Value) (hf : mput f k u k2 = fo)
    (hv : (bif ok then .tuple #[fo.getD zv, .bool fo.isSome] else fo.getD zv) = v) : OpV prog σ n E P ⟨d, .lookup t x y ok, ty, pos, aft, g⟩ v := fun _ w ha hw => by
  rw [hT.eq] at hw
  obtain ⟨⟨⟨es, clk⟩, i⟩, hh⟩ := sat_ex.1 hw
  simp only [sep_assoc] at hh
  obtain ⟨⟨⟨ho, hbo⟩, _⟩, hw'⟩ := sat_lift.1 hh
  have hq : Sat σ w (sep (mapq r ks (mput f k u)) (R)) := hw'.ent ((mapq_mk ho hbo).frame R)
  have := lookup_runq (prog := prog) (t := t) hk hq ok
  simp only [execOp, ha.ev hx, ha.ev hy, Sem.run_bind, this, Result.andThen_ok, Sem.run_pure]
  rw [hf, ← hv]
  cases ok <;> rfl
theorem opx_entryStoreQ (hx : ev E x = some (.map (some r))) (hy : ev E y = some (.int .i64 s)) (hz : ev E z = some v) [hT : LookE P r ks f k u s R] (hk : Shape ks k) :
    OpX prog σ n E P ⟨none, .entryStore t x y z, ty, pos, aft, g⟩ (fun _ : Unit => True) (fun _ => E) (fun _ => (sep (mapq r ks (mput f k v)) (R))) := by
  refine OpX.of_skip rfl fun a w ha hw => ?_
  rw [hT.eq] at hw
  obtain ⟨⟨⟨es, clk⟩, i⟩, hh⟩ := sat_ex.1 hw
  simp only [sep_assoc] at hh
  obtain ⟨⟨⟨ho, hbo⟩, e, he, hek, hes⟩, hw'⟩ := sat_lift.1 hh
  have hb := hw'.blk
  have hil : i < es.size := by have := (List.getElem?_eq_some_iff.1 he).1; rwa [Array.length_toList] at this
  have hei : es[i] = e := by have := (List.getElem?_eq_some_iff.1 he).2; simpa using this
  have hfind : es.findIdx? (fun e => (e.born : Int) == s) = some i := by
    rw [Array.findIdx?_eq_some_iff_getElem]
    refine ⟨hil, by simp [hei, hes], fun j hj => ?_⟩
    simp only [Bool.not_eq_true, beq_eq_false_iff_ne, ne_eq]
    intro hjs
    have hjl : j < es.size := by omega
    have hnd := hbo.1
    have h1 : (es.toList.map (·.born))[j]? = some e.born := by
      rw [List.getElem?_map, Array.getElem?_toList, Array.getElem?_eq_getElem hjl]
      have : es[j].born = e.born := by omega
      simp [this]
    have h2 : (es.toList.map (·.born))[i]? = some e.born := by rw [List.getElem?_map, he]; rfl
    have := (List.getElem?_inj (by rw [List.length_map, Array.length_toList]; exact hjl) hnd).1 (h1.trans h2.symm)
    omega
  have hput := ho.put_at (k := k) hk he hek v
  have hff : mput (mput f k u) k v = mput f k v := by
    funext q
    unfold mput
    split <;> simp_all
  rw [hff] at hput
  have hmod : es.modify i (fun e => { e with val := v }) = es.modify i (fun e => { e with key := .agg k.toArray, val := v }) := by
    apply Array.ext_getElem?
    intro j
    rw [Array.getElem?_modify, Array.getElem?_modify]
    by_cases hij : i = j
    · subst hij
      rw [← Array.getElem?_toList, he]
      simp [hek]
    · simp [hij]
  refine ⟨(), _, trivial, ?_, sat_setq (es' := es.modify i fun e => { e with key := .agg k.toArray, val := v }) (c' := clk) hw' (by rw [Array.toList_modify]; exact hput) (by rw [Array.toList_modify]; exact hbo.modify _ fun _ => rfl)⟩
  simp only [execOp, ha.ev hx, ha.ev hy, ha.ev hz, Instr.entryStore, asInt, asIntOf, Sem.run_bind, run_getObj_map w r es clk hb, Sem.run_pure, Result.andThen_ok, hfind, run_setMap _ hb, hmod]
end Go.SLA
namespace Go.SLA

variable {prog : Program} {σ : World} {n : Nat} {Q : Exit → Act → World → Prop} {E E' : Env} {P P' R F : HProp} {ops : Array Oper} {rest : List Oper} {Qa : Act → Prop}

/-! ### Values -/
abbrev I (n : Int) : Value := .int .i64 n
abbrev U8 (n : Int) : Value := .int .u8 n
abbrev Tt : Value := .bool true
abbrev Ff : Value := .bool false
abbrev Pt (b o : Nat) : Value := .pointer (some (ad b o))
abbrev Sk (b o l c : Nat) : Value := .slice (some (ad b o)) l c
abbrev Np : Value := .pointer none
abbrev Ns : Value := .slice none 0 0
abbrev Mp (r : Nat) : Value := .map (some r)
abbrev Z : Value := .string ⟨#[]⟩
abbrev St (l : List UInt8) : Value := .string ⟨l.toArray⟩

/-! ### Contracts of one answer -/
/-- From P the call answers v and leaves Qo. -/
abbrev Sp (prog : Program) (f : FuncId) (args : Array Value) (P : HProp) (v : Value) (Qo : HProp) : Prop := FSpec prog f args P (fun _ : Unit => True) (fun _ => v) (fun _ => Qo)
/-- From P the call answers v and leaves P. -/
abbrev Kp (prog : Program) (f : FuncId) (args : Array Value) (P : HProp) (v : Value) : Prop := FSpec prog f args P (fun _ : Unit => True) (fun _ => v) (fun _ => P)
theorem en {f : FuncId} {fn : Func} {c : Code} {m : Nat} {args : List Value} {X : Type} {φ : X → Prop} {val : X → Value} {Qo : X → HProp} (hf : prog.funcs[f]? = some fn) (hb : (fn.body, fn.ntmps, Nat.ble args.length m) = (some c, m, true))
    (h : ∀ σ F, J prog σ m c (bodyPost prog fn (Back σ φ val Qo F)) (Env.ofArgs 0 args) (sep (P) (F))) : FSpec prog f args.toArray P φ val Qo := by
  simp only [Prod.mk.injEq] at hb; exact FSpec.enter' hf hb.1 hb.2.1 hb.2.2 h

/-! ### Structure -/
theorem sr {id : Nat} {l : List Oper} {y : Code} (h : L prog σ n l.toArray l (Exit.then (y.wp prog Q) Q) E P) : J prog σ n (.seq (.region id l.toArray false) y) Q E P := J_seq (J_region h)
theorem nk {y : Code} (h : J prog σ n y Q E P) : L prog σ n ops [] (Exit.then (y.wp prog Q) Q) E P := L_nil (K_then h)
theorem cf {c : Operand} {x y : Code} (hc : ev E c = some (.bool false)) (ht : J prog σ n y Q E P) : J prog σ n (.cond c x y) Q E P := J_cond_false hc ht
theorem ct {c : Operand} {x y : Code} (hc : ev E c = some (.bool true)) (ht : J prog σ n x Q E P) : J prog σ n (.cond c x y) Q E P := J_cond_true hc ht
theorem sk {y : Code} (h : J prog σ n y Q E P) : J prog σ n .skip (Exit.then (y.wp prog Q) Q) E P := J_skip (K_then h)
theorem nr {id : Nat} {l : List Oper} {y : Code} (h : L prog σ n l.toArray l (Exit.then (y.wp prog Q) Q) E P) : L prog σ n ops [] (Exit.then ((Code.seq (.region id l.toArray false) y).wp prog Q) Q) E P := nk (sr h)
theorem nf {c : Operand} {x y : Code} (hc : ev E c = some (.bool false)) (ht : J prog σ n y Q E P) : L prog σ n ops [] (Exit.then ((Code.cond c x y).wp prog Q) Q) E P := nk (cf hc ht)
theorem nt {c : Operand} {x y : Code} (hc : ev E c = some (.bool true)) (ht : J prog σ n x Q E P) : L prog σ n ops [] (Exit.then ((Code.cond c x y).wp prog Q) Q) E P := nk (ct hc ht)
theorem r0 {fn : Func} {v : Value} {Qo : HProp} (h : (fn.results, v) = (#[], Value.tuple #[])) (hp : Ent P (sep (Qo) (F))) : K σ n (bodyPost prog fn (Back σ (fun _ : Unit => True) (fun _ => v) (fun _ => Qo) F)) .ret E P := by
  simp only [Prod.mk.injEq] at h; exact K_ret0 h.1 () trivial h.2 hp
theorem z0 {fn : Func} {v : Value} {Qo : HProp} (h : (fn.results, v) = (#[], Value.tuple #[])) (hp : Ent P (sep (Qo) (F))) : K σ n (bodyPost prog fn (Back σ (fun _ : Unit => True) (fun _ => v) (fun _ => Qo) F)) .normal E P := by
  simp only [Prod.mk.injEq] at h; exact K_end0 h.1 () trivial h.2 hp
theorem r1 {fn : Func} {t : Tmp} {v : Value} {Qo : HProp} (h : (fn.results, Env.get E t) = (#[.tmp t], some v)) (hp : Ent P (sep (Qo) (F))) : K σ n (bodyPost prog fn (Back σ (fun _ : Unit => True) (fun _ => v) (fun _ => Qo) F)) .ret E P := by
  simp only [Prod.mk.injEq] at h; exact K_ret1 h.1 h.2 () trivial rfl hp
theorem r2 {fn : Func} {t u : Tmp} {v v' : Value} {Qo : HProp} (h : (fn.results, Env.get E t, Env.get E u) = (#[.tmp t, .tmp u], some v, some v')) (hp : Ent P (sep (Qo) (F))) : K σ n (bodyPost prog fn (Back σ (fun _ : Unit => True) (fun _ => .tuple #[v, v']) (fun _ => Qo) F)) .ret E P := by
  simp only [Prod.mk.injEq] at h; exact K_ret2 h.1 h.2.1 h.2.2 () trivial rfl hp

/-! ### Operations that read no memory, by one equation -/
def cmpI : BinOp → Int → Int → Option Value
  | .eql, a, b => match decide (a = b) with | true => some (.bool true) | false => some (.bool false)
  | .neq, a, b => match decide (a = b) with | true => some (.bool false) | false => some (.bool true)
  | .lss, a, b => match decide (a < b) with | true => some (.bool true) | false => some (.bool false)
  | .leq, a, b => match decide (a ≤ b) with | true => some (.bool true) | false => some (.bool false)
  | .gtr, a, b => match decide (b < a) with | true => some (.bool true) | false => some (.bool false)
  | .geq, a, b => match decide (b ≤ a) with | true => some (.bool true) | false => some (.bool false)
  | _, _, _ => none
def e1 (E : Env) : Op → Option Value
  | .move x => ev E x
  | .assign x => ev E x
  | .nilCheck x => match ev E x with | some (.pointer (some p)) => some (.pointer (some p)) | _ => none
  | .pick x y z => match ev E x with | some (.bool true) => ev E y | some (.bool false) => ev E z | _ => none
  | .extract x i => match ev E x with | some (.tuple vs) => vs.toList[i]? | _ => none
  | .unOp .not _ x => match ev E x with | some (.bool true) => some (.bool false) | some (.bool false) => some (.bool true) | _ => none
  | .binOp op _ x y _ => match ev E x, ev E y with
    | some (.int k a), some (.int k' b) => match decide (k = k') with | true => cmpI op a b | false => none
    | _, _ => none
  | _ => none
theorem cmpI_ibin {op : BinOp} {k : IntKind} {a b : Int} {v : Value} (h : cmpI op a b = some v) : ibin op k a b = some v := by
  cases op <;> simp only [cmpI, reduceCtorEq] at h <;> (split at h <;> rename_i hd <;> simp only [Option.some.injEq] at h <;> subst h <;> simp_all [ibin])
theorem e1_spec {d : Option Tmp} {op : Op} {ty : TypeId} {pos : String} {aft : Array Edge} {g : Option (Nat × Bool)} {v : Value} (h : e1 E op = some v) : OpV prog σ n E P ⟨d, op, ty, pos, aft, g⟩ v := by
  unfold e1 at h
  split at h
  · exact opv_move h
  · exact opv_assign h
  · split at h
    · rename_i p hp; simp only [Option.some.injEq] at h; subst h; exact opv_nilCheck hp
    · cases h
  · split at h
    · rename_i hp; exact opv_pk (p := true) hp h
    · rename_i hp; exact opv_pk (p := false) hp h
    · cases h
  · split at h
    · rename_i vs hp; exact opv_extract hp (by rw [← Array.getElem?_toList]; exact h)
    · cases h
  · split at h
    · rename_i hp; simp only [Option.some.injEq] at h; subst h; exact opv_nt (p := true) hp rfl
    · rename_i hp; simp only [Option.some.injEq] at h; subst h; exact opv_nt (p := false) hp rfl
    · cases h
  · split at h
    · rename_i hx hy
      split at h
      · rename_i hd; have := of_decide_eq_true hd; subst this; exact opv_ib hx hy (cmpI_ibin h)
      · cases h
    · cases h
  · cases h
section
variable {d1 d2 d3 d4 d5 d6 : Nat} {o1 o2 o3 o4 o5 o6 : Op} {t1 t2 t3 t4 t5 t6 : TypeId} {p1 p2 p3 p4 p5 p6 : String} {f1 f2 f3 f4 f5 f6 : Array Edge} {v1 v2 v3 v4 v5 v6 : Value}
theorem ea (h : (e1 E o1, Nat.blt d1 n) = (some v1, true)) (k : L prog σ n ops rest Q ((d1, v1) :: E) P) : L prog σ n ops (⟨some d1, o1, t1, p1, f1, none⟩ :: rest) Q E P := by
  simp only [Prod.mk.injEq] at h; exact L_v (e1_spec h.1) h.2 k
theorem eb (h : (e1 E o1, Nat.blt d1 n, e1 ((d1, v1) :: E) o2, Nat.blt d2 n) = (some v1, true, some v2, true)) (k : L prog σ n ops rest Q ((d2, v2) :: (d1, v1) :: E) P) : L prog σ n ops (⟨some d1, o1, t1, p1, f1, none⟩ :: ⟨some d2, o2, t2, p2, f2, none⟩ :: rest) Q E P := by
  simp only [Prod.mk.injEq] at h; exact L_v (e1_spec h.1) h.2.1 (L_v (e1_spec h.2.2.1) h.2.2.2 k)
theorem ec (h : (e1 E o1, Nat.blt d1 n, e1 ((d1, v1) :: E) o2, Nat.blt d2 n, e1 ((d2, v2) :: (d1, v1) :: E) o3, Nat.blt d3 n) = (some v1, true, some v2, true, some v3, true)) (k : L prog σ n ops rest Q ((d3, v3) :: (d2, v2) :: (d1, v1) :: E) P) :
    L prog σ n ops (⟨some d1, o1, t1, p1, f1, none⟩ :: ⟨some d2, o2, t2, p2, f2, none⟩ :: ⟨some d3, o3, t3, p3, f3, none⟩ :: rest) Q E P := by
  simp only [Prod.mk.injEq] at h; exact L_v (e1_spec h.1) h.2.1 (L_v (e1_spec h.2.2.1) h.2.2.2.1 (L_v (e1_spec h.2.2.2.2.1) h.2.2.2.2.2 k))
theorem ed (h : (e1 E o1, Nat.blt d1 n, e1 ((d1, v1) :: E) o2, Nat.blt d2 n, e1 ((d2, v2) :: (d1, v1) :: E) o3, Nat.blt d3 n, e1 ((d3, v3) :: (d2, v2) :: (d1, v1) :: E) o4, Nat.blt d4 n) = (some v1, true, some v2, true, some v3, true, some v4, true))
    (k : L prog σ n ops rest Q ((d4, v4) :: (d3, v3) :: (d2, v2) :: (d1, v1) :: E) P) :
    L prog σ n ops (⟨some d1, o1, t1, p1, f1, none⟩ :: ⟨some d2, o2, t2, p2, f2, none⟩ :: ⟨some d3, o3, t3, p3, f3, none⟩ :: ⟨some d4, o4, t4, p4, f4, none⟩ :: rest) Q E P := by
  simp only [Prod.mk.injEq] at h; exact L_v (e1_spec h.1) h.2.1 (L_v (e1_spec h.2.2.1) h.2.2.2.1 (L_v (e1_spec h.2.2.2.2.1) h.2.2.2.2.2.1 (L_v (e1_spec h.2.2.2.2.2.2.1) h.2.2.2.2.2.2.2 k)))
theorem qa (h : (e1 E o1, Nat.blt d1 n) = (some v1, true)) (k : QL prog σ n ops rest Qa ((d1, v1) :: E) P) : QL prog σ n ops (⟨some d1, o1, t1, p1, f1, none⟩ :: rest) Qa E P := by
  simp only [Prod.mk.injEq] at h; exact Q_v (e1_spec h.1) h.2 k
theorem qb (h : (e1 E o1, Nat.blt d1 n, e1 ((d1, v1) :: E) o2, Nat.blt d2 n) = (some v1, true, some v2, true)) (k : QL prog σ n ops rest Qa ((d2, v2) :: (d1, v1) :: E) P) : QL prog σ n ops (⟨some d1, o1, t1, p1, f1, none⟩ :: ⟨some d2, o2, t2, p2, f2, none⟩ :: rest) Qa E P := by
  simp only [Prod.mk.injEq] at h; exact Q_v (e1_spec h.1) h.2.1 (Q_v (e1_spec h.2.2.1) h.2.2.2 k)
end

/-! ### One operation -/
section
variable {d : Nat} {ty : TypeId} {pos : String} {aft : Array Edge} {g : Option (Nat × Bool)} {x y z : Operand} {t t' : TypeId} {k : IntKind} {v u : Value} {a b' : Int}
theorem ib {op : BinOp} (c : Value) (h : (ev E x, ev E y, ibin op k a b', Nat.blt d n) = (some (.int k a), some (.int k b'), some c, true)) (r : L prog σ n ops rest Q ((d, c) :: E) P) : L prog σ n ops (⟨some d, .binOp op t x y t', ty, pos, aft, none⟩ :: rest) Q E P := by
  simp only [Prod.mk.injEq] at h; exact L_v (opv_ib h.1 h.2.1 h.2.2.1) h.2.2.2 r
theorem fa {b o f off m : Nat} (q : Nat) [Fld prog t f off m] (h : (ev E x, o + off, Nat.blt d n) = (some (.pointer (some (ad b o))), q, true)) (r : L prog σ n ops rest Q ((d, Pt b q) :: E) P) : L prog σ n ops (⟨some d, .fieldAddr t x f, ty, pos, aft, none⟩ :: rest) Q E P := by
  simp only [Prod.mk.injEq] at h; exact L_v (opv_fa q h.1 h.2.1) h.2.2 r
theorem qf {b o f off m : Nat} (q : Nat) [Fld prog t f off m] (h : (ev E x, o + off, Nat.blt d n) = (some (.pointer (some (ad b o))), q, true)) (r : QL prog σ n ops rest Qa ((d, Pt b q) :: E) P) : QL prog σ n ops (⟨some d, .fieldAddr t x f, ty, pos, aft, none⟩ :: rest) Qa E P := by
  simp only [Prod.mk.injEq] at h; exact Q_v (opv_fa q h.1 h.2.1) h.2.2 r
theorem ld {b o : Nat} {l : List Value} {te : TypeId} (h : (ev E x, Nat.blt d n) = (some (.pointer (some (ad b o))), true)) [One prog t] [Look P b l te R] (hv : l[o]? = some v) (r : L prog σ n ops rest Q ((d, v) :: E) P) : L prog σ n ops (⟨some d, .load t x, ty, pos, aft, none⟩ :: rest) Q E P := by
  simp only [Prod.mk.injEq] at h; exact L_v (opv_load h.1 (Rd.look hv)) h.2 r
theorem ql {b o : Nat} {l : List Value} {te : TypeId} (h : (ev E x, Nat.blt d n) = (some (.pointer (some (ad b o))), true)) [One prog t] [Look P b l te R] (hv : l[o]? = some v) (r : QL prog σ n ops rest Qa ((d, v) :: E) P) : QL prog σ n ops (⟨some d, .load t x, ty, pos, aft, none⟩ :: rest) Qa E P := by
  simp only [Prod.mk.injEq] at h; exact Q_v (opv_load h.1 (Rd.look hv)) h.2 r
theorem lf {d2 : Nat} {ty2 : TypeId} {pos2 : String} {aft2 : Array Edge} {b o f off m : Nat} {l : List Value} {te : TypeId} (q : Nat) [Fld prog t' f off m] (h : (ev E x, o + off, Nat.blt d n, Nat.blt d2 n) = (some (.pointer (some (ad b o))), q, true, true)) [One prog t] [Look P b l te R] (hv : l[q]? = some v)
    (r : L prog σ n ops rest Q ((d2, v) :: (d, Pt b q) :: E) P) : L prog σ n ops (⟨some d, .fieldAddr t' x f, ty, pos, aft, none⟩ :: ⟨some d2, .load t (.tmp d), ty2, pos2, aft2, none⟩ :: rest) Q E P := by
  simp only [Prod.mk.injEq] at h
  exact L_v (opv_fa q h.1 h.2.1) h.2.2.1 (L_v (opv_load (b := b) (o := q) (by simp [ev, Env.get]) (Rd.look hv)) h.2.2.2 r)
theorem ls {b o m : Nat} {l vs : List Value} {te : TypeId} (h : (ev E x, Nat.blt d n) = (some (.pointer (some (ad b o))), true)) [Agg prog t m] [Look P b l te R] [CutL l o m vs] (r : L prog σ n ops rest Q ((d, .agg vs.toArray) :: E) P) : L prog σ n ops (⟨some d, .load t x, ty, pos, aft, none⟩ :: rest) Q E P := by
  simp only [Prod.mk.injEq] at h; exact L_v (opv_loadS h.1) h.2 r
theorem ll {e m len cap : Nat} {A : Option Addr} (h : (ev E x, Nat.blt d n) = (some (.slice A len cap), true)) [Slc prog t e m] (r : L prog σ n ops rest Q ((d, .int .i64 len) :: E) P) : L prog σ n ops (⟨some d, .call ⟨.builtin .len, #[x], #[t]⟩, ty, pos, aft, none⟩ :: rest) Q E P := by
  simp only [Prod.mk.injEq] at h; exact L_v (opv_lenL h.1) h.2 r
theorem ep {p : Option Addr} (q : Bool) (h : (ev E x, ev E y, p.isNone, Nat.blt d n) = (some (.pointer p), some (.pointer none), q, true)) [PtrT prog t] (r : L prog σ n ops rest Q ((d, .bool q) :: E) P) : L prog σ n ops (⟨some d, .binOp .eql t x y t', ty, pos, aft, none⟩ :: rest) Q E P := by
  simp only [Prod.mk.injEq] at h; exact L_v (opv_eP h.1 h.2.1 h.2.2.1) h.2.2.2 r
theorem np {p : Option Addr} (q : Bool) (h : (ev E x, ev E y, p.isSome, Nat.blt d n) = (some (.pointer p), some (.pointer none), q, true)) [PtrT prog t] (r : L prog σ n ops rest Q ((d, .bool q) :: E) P) : L prog σ n ops (⟨some d, .binOp .neq t x y t', ty, pos, aft, none⟩ :: rest) Q E P := by
  simp only [Prod.mk.injEq] at h; exact L_v (opv_nP h.1 h.2.1 h.2.2.1) h.2.2.2 r
theorem ix {b o len cap e m : Nat} (q : Nat) (hx : (ev E x, ev E y) = (some (.slice (some (ad b o)) len cap), some (.int k a))) [Slc prog t e m] (h0 : (decide (0 ≤ a ∧ a < len), o + a.toNat * m, Nat.blt d n) = (true, q, true)) (r : L prog σ n ops rest Q ((d, Pt b q) :: E) P) :
    L prog σ n ops (⟨some d, .indexAddr t x y, ty, pos, aft, none⟩ :: rest) Q E P := by
  simp only [Prod.mk.injEq] at hx h0; exact L_v (opv_ix q hx.1 hx.2 h0.1 h0.2.1) h0.2.2 r
/-- A guard that is met. -/
theorem go {d : Option Nat} {op : Op} {j s : Nat} {want b : Bool} (h : ((ops[j]?).bind (·.dst), Env.get E s, b == want) = (some s, some (.bool b), true)) (r : L prog σ n ops (⟨d, op, ty, pos, aft, none⟩ :: rest) Q E P) : L prog σ n ops (⟨d, op, ty, pos, aft, some (j, want)⟩ :: rest) Q E P := by
  simp only [Prod.mk.injEq] at h; exact L_gon h.1 h.2.1 h.2.2 r
theorem gs {op : Op} {j s : Nat} {want b : Bool} (h : ((ops[j]?).bind (·.dst), Env.get E s, b == want, Nat.blt d n) = (some s, some (.bool b), false, true)) (r : L prog σ n ops rest Q ((d, undef) :: E) P) : L prog σ n ops (⟨some d, op, ty, pos, aft, some (j, want)⟩ :: rest) Q E P := by
  simp only [Prod.mk.injEq] at h; exact L_gskipU h.1 h.2.1 h.2.2.1 h.2.2.2 r
theorem qo {d : Option Nat} {op : Op} {j s : Nat} {want b : Bool} (h : ((ops[j]?).bind (·.dst), Env.get E s, b == want) = (some s, some (.bool b), true)) (r : QL prog σ n ops (⟨d, op, ty, pos, aft, none⟩ :: rest) Qa E P) : QL prog σ n ops (⟨d, op, ty, pos, aft, some (j, want)⟩ :: rest) Qa E P := by
  simp only [Prod.mk.injEq] at h; exact Q_gon h.1 h.2.1 h.2.2 r
theorem qs {op : Op} {j s : Nat} {want b : Bool} (h : ((ops[j]?).bind (·.dst), Env.get E s, b == want, Nat.blt d n) = (some s, some (.bool b), false, true)) (r : QL prog σ n ops rest Qa ((d, undef) :: E) P) : QL prog σ n ops (⟨some d, op, ty, pos, aft, some (j, want)⟩ :: rest) Qa E P := by
  simp only [Prod.mk.injEq] at h; exact Q_gskipU h.1 h.2.1 h.2.2.1 h.2.2.2 r
theorem so {m b o : Nat} {l l' vs : List Value} {te : TypeId} (hx : (ev E x, ev E y) = (some (.pointer (some (ad b o))), some v)) [Siz prog t m] [Cel v vs] (hl : (vs.length, vs.all fun u => u.oneCell') = (m, true)) [Look P b l te R] [Spl l o vs l'] (r : L prog σ n ops rest Q E (sep (cel b l' te) (R))) :
    L prog σ n ops (⟨none, .store t x y, ty, pos, aft, none⟩ :: rest) Q E P := by
  simp only [Prod.mk.injEq] at hx hl; exact L_x rfl (opx_store hx.1 hx.2 hl.1 (List.all_eq_true.1 hl.2)) (fun _ _ => r)
theorem bx {l : List Value} (h : (ev E x, Nat.blt d n) = (some v, true)) [Cel v l] (r : ∀ b, L prog σ n ops rest Q ((d, Pt b 0) :: E) (sep (cel b l t) (P))) : L prog σ n ops (⟨some d, .box t x, ty, pos, aft, none⟩ :: rest) Q E P := by
  simp only [Prod.mk.injEq] at h; exact L_x rfl (opx_box h.1 h.2) (fun b _ => r b)
theorem al {zs : List Value} (h : Nat.blt d n = true) [Zer prog t zs] (r : ∀ b, L prog σ n ops rest Q ((d, Pt b 0) :: E) (sep (cel b zs t) (P))) : L prog σ n ops (⟨some d, .alloc t, ty, pos, aft, none⟩ :: rest) Q E P := L_x rfl (opx_alloc h) (fun b _ => r b)
theorem cu {args : Array Operand} {tys : Array TypeId} {f : FuncId} {vs : List Value} {P0 Qo : HProp} (hs : FSpec prog f vs.toArray P0 (fun _ : Unit => True) (fun _ => v) (fun _ => Qo)) (h : (evl E args.toList, Nat.blt d n) = (some vs, true)) [Fun prog f] [Take P P0 R]
    (r : L prog σ n ops rest Q ((d, v) :: E) (sep (Qo) (R))) : L prog σ n ops (⟨some d, .call ⟨.value (.func f), args, tys⟩, ty, pos, aft, none⟩ :: rest) Q E P := by
  simp only [Prod.mk.injEq] at h; exact L_x rfl (opx_call0 hs h.1 rfl h.2) (fun _ _ => r)
end

/-! ### Drawn regions: what is checked by evaluation stands last -/
section
variable {S0 S R0 : HProp} {B : List Nat} {fuel : Nat} {listed : Array Bool} {d : Nat} {op : Op} {x : Operand} {t : TypeId} {ty : TypeId} {pos : String} {aft : Array Edge} {v : Value}
theorem ps (i : Nat) [NP Q] [hS : Take P S R] [h0 : Take P S0 R0] (hi : ops[i]? = some ⟨some d, op, ty, pos, aft, none⟩) (h : OpV prog σ n E S0 ⟨some d, op, ty, pos, aft, none⟩ v)
    (k : Rg prog σ n ops Q S0 S B fuel (listed.setIfInBounds i true) ((d, v) :: E) P) (hk : puB ops B listed i = true := by kernel_rfl) (hd : Nat.blt d n = true := by rfl) : Rg prog σ n ops Q S0 S B (fuel + 1) listed E P := R_ps i hi hk h hd k
theorem pe (i : Nat) [NP Q] [hS : Take P S R] [h0 : Take P S0 R0] (hi : ops[i]? = some ⟨some d, op, ty, pos, aft, none⟩) (h : (e1 E op, Nat.blt d n) = (some v, true))
    (k : Rg prog σ n ops Q S0 S B fuel (listed.setIfInBounds i true) ((d, v) :: E) P) (hk : puB ops B listed i = true := by kernel_rfl) : Rg prog σ n ops Q S0 S B (fuel + 1) listed E P := by
  simp only [Prod.mk.injEq] at h; exact R_ps i hi hk (e1_spec h.1) h.2 k
theorem pf (i : Nat) {b o f off m : Nat} (q : Nat) [NP Q] [hS : Take P S R] [h0 : Take P S0 R0] (hi : ops[i]? = some ⟨some d, .fieldAddr t x f, ty, pos, aft, none⟩) [Fld prog t f off m] (h : (ev E x, o + off, Nat.blt d n) = (some (.pointer (some (ad b o))), q, true))
    (k : Rg prog σ n ops Q S0 S B fuel (listed.setIfInBounds i true) ((d, Pt b q) :: E) P) (hk : puB ops B listed i = true := by kernel_rfl) : Rg prog σ n ops Q S0 S B (fuel + 1) listed E P := by
  simp only [Prod.mk.injEq] at h; exact R_ps i hi hk (opv_fa q h.1 h.2.1) h.2.2 k
theorem pl (i : Nat) {b o : Nat} {l : List Value} {te : TypeId} {R1 : HProp} [NP Q] [hS : Take P S R] [h0 : Take P S0 R0] (hi : ops[i]? = some ⟨some d, .load t x, ty, pos, aft, none⟩) [One prog t] (h : (ev E x, Nat.blt d n) = (some (.pointer (some (ad b o))), true)) [Look S0 b l te R1] (hv : l[o]? = some v)
    (k : Rg prog σ n ops Q S0 S B fuel (listed.setIfInBounds i true) ((d, v) :: E) P) (hk : puB ops B listed i = true := by kernel_rfl) : Rg prog σ n ops Q S0 S B (fuel + 1) listed E P := by
  simp only [Prod.mk.injEq] at h; exact R_ps i hi hk (opv_load h.1 (Rd.look hv)) h.2 k
theorem pn (i : Nat) {o : Oper} {X : Type} {φ : X → Prop} {E' : X → Env} {P' R' R2 : X → HProp} (hi : (ops[i]?, o.guard) = (some o, none)) (h : OpX prog σ n E P o φ E' P') [hS0 : ∀ x, Take (P' x) S0 (R' x)] [hS : ∀ x, Take (P' x) S (R2 x)]
    (k : ∀ x, φ x → Rg prog σ n ops Q S0 S B fuel (listed.setIfInBounds i true) (E' x) (P' x)) (hk : (Region.ready .any ops listed == [i]) = true := by kernel_rfl) : Rg prog σ n ops Q S0 S B (fuel + 1) listed E P := by
  simp only [Prod.mk.injEq] at hi; exact R_n i hi.1 hi.2 hk h k
theorem dn (h : K σ n Q .normal E P) (hr : Region.ready .any ops listed = [] := by kernel_rfl) : Rg prog σ n ops Q S0 S B fuel listed E P := R_done hr h
end
theorem sub_map : ∀ {E' E : Env}, (E'.map fun p => Env.get E p.1) = (E'.map fun p => some p.2) → Sub E' E
  | [], _, _ => trivial
  | (i, v) :: l, E, h => by
    simp only [List.map_cons, List.cons.injEq] at h
    exact ⟨h.1, sub_map h.2⟩
theorem kc {X : Type} {E' : X → Env} {P' : X → HProp} {Q' : Exit → Act → World → Prop} (i : X) (hs : ((E' i).map fun p => Env.get E p.1) = ((E' i).map fun p => some p.2)) (hp : Ent P (P' i)) :
    K σ n (Exit.then (fun a w => ∃ i, True ∧ Agree n (E' i) a ∧ Sat σ w (P' i)) Q') .normal E P := K_cut (φ := fun _ => True) i trivial (sub_map hs) hp

/-! ### Several steps of code and region by one -/
theorem r.{u} {α : Sort u} {a : α} : a = a := rfl
abbrev js := @J_seq
abbrev jg := @J_region
abbrev jb := @J_block
abbrev jr := @J_ret
abbrev jx := @J_exit
abbrev jk := @J_skip
abbrev kb := @K_block
abbrev kh := @K_block_here
abbrev ke := @K_then_exit
abbrev kt := @K_then
abbrev kd := @K_then_ret
abbrev kq := @K_block_ret
abbrev ku := @K_round
abbrev ju := @JU_round
abbrev ln := @L_nil
abbrev lv := @L_v
abbrev lx := @L_x
abbrev qv := @Q_v
abbrev qn := @QL_nil
theorem jl {id : Nat} {c : Code} (h : JU prog σ n c (Exit.inBlock id Q) E P) : J prog σ n (.block id (.loop c)) Q E P := J_block (J_loopU h)
theorem nj {x y : Code} (h : J prog σ n x (Exit.then (y.wp prog Q) Q) E P) : L prog σ n ops [] (Exit.then ((Code.seq x y).wp prog Q) Q) E P := nk (J_seq h)
theorem kr {c : Code} (h : JU prog σ n c Q E P) : L prog σ n ops [] (Exit.then (LoopWp prog c Q) Q) E P := L_nil (K_round h)
theorem skb {id : Nat} {y : Code} (h : J prog σ n y Q E P) : J prog σ n .skip (Exit.inBlock id (Exit.then (y.wp prog Q) Q)) E P := J_skip (K_block (K_then h))
section
variable {id d d1 d2 : Nat} {o o1 o2 : Op} {ty ty1 ty2 : TypeId} {pos pos1 pos2 : String} {aft aft1 aft2 : Array Edge} {v v1 v2 : Value} {c : Operand} {x0 y z : Code}
theorem sa (h : (e1 E o, Nat.blt d n) = (some v, true)) (k : L prog σ n (⟨some d, o, ty, pos, aft, none⟩ :: rest).toArray rest (Exit.then (y.wp prog Q) Q) ((d, v) :: E) P) : J prog σ n (.seq (.region id (⟨some d, o, ty, pos, aft, none⟩ :: rest).toArray false) y) Q E P := sr (ea h k)
theorem sb (h : (e1 E o1, Nat.blt d1 n, e1 ((d1, v1) :: E) o2, Nat.blt d2 n) = (some v1, true, some v2, true)) (k : L prog σ n (⟨some d1, o1, ty1, pos1, aft1, none⟩ :: ⟨some d2, o2, ty2, pos2, aft2, none⟩ :: rest).toArray rest (Exit.then (y.wp prog Q) Q) ((d2, v2) :: (d1, v1) :: E) P) :
    J prog σ n (.seq (.region id (⟨some d1, o1, ty1, pos1, aft1, none⟩ :: ⟨some d2, o2, ty2, pos2, aft2, none⟩ :: rest).toArray false) y) Q E P := sr (eb h k)
theorem an (h : (e1 E o, Nat.blt d n) = (some v, true)) (k : J prog σ n y Q ((d, v) :: E) P) : L prog σ n ops [⟨some d, o, ty, pos, aft, none⟩] (Exit.then (y.wp prog Q) Q) E P := ea h (nk k)
theorem bf {x : Code} (h : (e1 E o1, Nat.blt d1 n, e1 ((d1, v1) :: E) o2, Nat.blt d2 n, ev ((d2, v2) :: (d1, v1) :: E) c) = (some v1, true, some v2, true, some (.bool false))) (k : J prog σ n y Q ((d2, v2) :: (d1, v1) :: E) P) :
    L prog σ n ops [⟨some d1, o1, ty1, pos1, aft1, none⟩, ⟨some d2, o2, ty2, pos2, aft2, none⟩] (Exit.then ((Code.cond c x y).wp prog Q) Q) E P := by
  simp only [Prod.mk.injEq] at h; exact L_v (e1_spec h.1) h.2.1 (L_v (e1_spec h.2.2.1) h.2.2.2.1 (nf h.2.2.2.2 k))
theorem san (h : (e1 E o, Nat.blt d n) = (some v, true)) (k : J prog σ n y Q ((d, v) :: E) P) : J prog σ n (.seq (.region id [⟨some d, o, ty, pos, aft, none⟩].toArray false) y) Q E P := sr (an h k)
/-- The head of a loop: on. -/
theorem ut (h : (e1 E o, Nat.blt d n, ev ((d, v) :: E) c) = (some v, true, some (.bool true))) (k : J prog σ n z (Exit.then (LoopWp prog (.seq (.region id [⟨some d, o, ty, pos, aft, none⟩].toArray false) (.seq (.cond c .skip x0) z)) Q) Q) ((d, v) :: E) P) :
    JU prog σ n (.seq (.region id [⟨some d, o, ty, pos, aft, none⟩].toArray false) (.seq (.cond c .skip x0) z)) Q E P := by
  simp only [Prod.mk.injEq] at h; exact JU_round (sr (L_v (e1_spec h.1) h.2.1 (nk (J_seq (J_cond_true h.2.2 (J_skip (K_then k)))))))
/-- The head of a loop: out. -/
theorem uf {b : Nat} {x : Code} (h : (e1 E o, Nat.blt d n, ev ((d, v) :: E) c) = (some v, true, some (.bool false))) (k : K σ n Q .normal ((d, v) :: E) P) :
    JU prog σ n (.seq (.region id [⟨some d, o, ty, pos, aft, none⟩].toArray false) (.seq (.cond c x (.exit b)) z)) (Exit.inBlock b Q) E P := by
  simp only [Prod.mk.injEq] at h; exact JU_round (sr (L_v (e1_spec h.1) h.2.1 (nk (J_seq (J_cond_false h.2.2 (J_exit (K_then_exit (K_then_exit (K_block_here k)))))))))
/-- A round's end: the number of the next one. -/
theorem ni {b : Nat} {op : BinOp} {xx yy : Operand} {t t' : TypeId} {kk : IntKind} {a b' : Int} {cc : Code} (u : Value) (h : (ev E xx, ev E yy, ibin op kk a b', Nat.blt d1 n, e1 ((d1, u) :: E) o2, Nat.blt d2 n) = (some (.int kk a), some (.int kk b'), some u, true, some v2, true))
    (k : JU prog σ n cc Q ((d2, v2) :: (d1, u) :: E) P) : K σ n (Exit.inBlock b (Exit.then ((Code.region id [⟨some d1, .binOp op t xx yy t', ty1, pos1, aft1, none⟩, ⟨some d2, o2, ty2, pos2, aft2, none⟩].toArray false).wp prog (Exit.then (LoopWp prog cc Q) Q)) (Exit.then (LoopWp prog cc Q) Q))) .normal E P := by
  simp only [Prod.mk.injEq] at h; exact K_block (K_then (J_region (L_v (opv_ib h.1 h.2.1 h.2.2.1) h.2.2.2.1 (L_v (e1_spec h.2.2.2.2.1) h.2.2.2.2.2 (L_nil (K_round k))))))
end
section
variable {d : Nat} {ty : TypeId} {pos : String} {aft : Array Edge} {v : Value}
/-- A call whose answer bears names. -/
theorem cy {args : Array Operand} {tys : Array TypeId} {f : FuncId} {vs : List Value} {P0 : HProp} {X : Type} {φ : X → Prop} {val : X → Value} {Qo : X → HProp} (hs : FSpec prog f vs.toArray P0 φ val Qo) (h : (evl E args.toList, Nat.blt d n) = (some vs, true)) [Fun prog f] [Take P P0 R]
    (k : ∀ x, L prog σ n ops rest Q ((d, val x) :: E) (sep (Qo x) (R))) : L prog σ n ops (⟨some d, .call ⟨.value (.func f), args, tys⟩, ty, pos, aft, none⟩ :: rest) Q E P := by
  simp only [Prod.mk.injEq] at h; exact L_x rfl (opx_call0 hs h.1 rfl h.2) (fun x _ => k x)
end
section
variable {d f off m b o : Nat} {t : TypeId} {x : Operand} {ty : TypeId} {pos : String} {aft : Array Edge}
theorem fz [Fld prog t f off m] (h : (ev E x, Nat.blt d n) = (some (.pointer (some (ad b 0))), true)) (k : L prog σ n ops rest Q ((d, .pointer (some (ad b off))) :: E) P) : L prog σ n ops (⟨some d, .fieldAddr t x f, ty, pos, aft, none⟩ :: rest) Q E P := by
  simp only [Prod.mk.injEq] at h; exact L_v (opv_fieldAddr0 h.1) h.2 k
theorem fy [Fld prog t f off m] (h : (ev E x, Nat.blt d n) = (some (.pointer (some (ad b o))), true)) (k : L prog σ n ops rest Q ((d, .pointer (some (ad b (o + off)))) :: E) P) : L prog σ n ops (⟨some d, .fieldAddr t x f, ty, pos, aft, none⟩ :: rest) Q E P := by
  simp only [Prod.mk.injEq] at h; exact L_v (opv_fieldAddr h.1) h.2 k
theorem qz [Fld prog t f off m] (h : (ev E x, Nat.blt d n) = (some (.pointer (some (ad b 0))), true)) (k : QL prog σ n ops rest Qa ((d, .pointer (some (ad b off))) :: E) P) : QL prog σ n ops (⟨some d, .fieldAddr t x f, ty, pos, aft, none⟩ :: rest) Qa E P := by
  simp only [Prod.mk.injEq] at h; exact Q_v (opv_fieldAddr0 h.1) h.2 k
theorem qy [Fld prog t f off m] (h : (ev E x, Nat.blt d n) = (some (.pointer (some (ad b o))), true)) (k : QL prog σ n ops rest Qa ((d, .pointer (some (ad b (o + off)))) :: E) P) : QL prog σ n ops (⟨some d, .fieldAddr t x f, ty, pos, aft, none⟩ :: rest) Qa E P := by
  simp only [Prod.mk.injEq] at h; exact Q_v (opv_fieldAddr h.1) h.2 k
end
end Go.SLA
namespace Go.Proofs
open Go.SLA
theorem Tryz.mixed : Tryz.prog.follows .mixedOrders = true := by kernel_rfl
instance : One Tryz.prog 3 := ⟨by kernel_rfl⟩
instance : Siz Tryz.prog 3 1 := ⟨by kernel_rfl⟩
instance : Byt Tryz.prog 3 8 := ⟨by kernel_rfl⟩
instance : Zer Tryz.prog 3 [.int .i64 0] := ⟨by kernel_rfl⟩
instance : IntT Tryz.prog 3 .i64 := ⟨by kernel_rfl⟩
instance : One Tryz.prog 4 := ⟨by kernel_rfl⟩
instance : Siz Tryz.prog 4 1 := ⟨by kernel_rfl⟩
instance : BoolT Tryz.prog 4 := ⟨by kernel_rfl⟩
instance : One Tryz.prog 5 := ⟨by kernel_rfl⟩
instance : Siz Tryz.prog 5 1 := ⟨by kernel_rfl⟩
instance : Byt Tryz.prog 5 1 := ⟨by kernel_rfl⟩
instance : Zer Tryz.prog 5 [.int .u8 0] := ⟨by kernel_rfl⟩
instance : IntT Tryz.prog 5 .u8 := ⟨by kernel_rfl⟩
instance : One Tryz.prog 9 := ⟨by kernel_rfl⟩
instance : Siz Tryz.prog 9 1 := ⟨by kernel_rfl⟩
instance : Byt Tryz.prog 9 16 := ⟨by kernel_rfl⟩
instance : Zer Tryz.prog 9 [.string ⟨#[]⟩] := ⟨by kernel_rfl⟩
instance : Str Tryz.prog 9 := ⟨by kernel_rfl⟩
instance : Fld Tryz.prog 23 0 0 1 := ⟨by kernel_rfl⟩
instance : Fld Tryz.prog 23 1 1 1 := ⟨by kernel_rfl⟩
instance : Fld Tryz.prog 23 2 2 1 := ⟨by kernel_rfl⟩
instance : Fld Tryz.prog 23 3 3 1 := ⟨by kernel_rfl⟩
instance : Fld Tryz.prog 23 4 4 1 := ⟨by kernel_rfl⟩
instance : Fld Tryz.prog 23 5 5 1 := ⟨by kernel_rfl⟩
instance : Agg Tryz.prog 25 4 := ⟨by kernel_rfl⟩
instance : Siz Tryz.prog 25 4 := ⟨by kernel_rfl⟩
instance : Zer Tryz.prog 25 [.int .u8 0, .int .u8 0, .int .u8 0, .int .u8 0] := ⟨by kernel_rfl⟩
instance : Arr Tryz.prog 25 4 5 1 := ⟨by kernel_rfl⟩
instance : One Tryz.prog 26 := ⟨by kernel_rfl⟩
instance : Siz Tryz.prog 26 1 := ⟨by kernel_rfl⟩
instance : Zer Tryz.prog 26 [.int .i64 0] := ⟨by kernel_rfl⟩
instance : Agg Tryz.prog 32 10 := ⟨by kernel_rfl⟩
instance : Siz Tryz.prog 32 10 := ⟨by kernel_rfl⟩
instance : Zer Tryz.prog 32 [.int .u8 0, .int .u8 0, .int .u8 0, .int .u8 0, .int .u8 0, .int .u8 0, .int .u8 0, .int .u8 0, .int .i64 0, .int .i64 0] := ⟨by kernel_rfl⟩
instance : Fld Tryz.prog 32 0 0 4 := ⟨by kernel_rfl⟩
instance : Fld Tryz.prog 32 1 4 4 := ⟨by kernel_rfl⟩
instance : Fld Tryz.prog 32 2 8 1 := ⟨by kernel_rfl⟩
instance : Fld Tryz.prog 32 3 9 1 := ⟨by kernel_rfl⟩
instance : Pls Tryz.prog 32 [(0, 4), (4, 4), (8, 1), (9, 1)] := ⟨by kernel_rfl⟩
instance : Slc Tryz.prog 35 39 14 := ⟨by kernel_rfl⟩
instance : Agg Tryz.prog 39 14 := ⟨by kernel_rfl⟩
instance : Siz Tryz.prog 39 14 := ⟨by kernel_rfl⟩
instance : Byt Tryz.prog 39 64 := ⟨by kernel_rfl⟩
instance : Zer Tryz.prog 39 [.int .i64 0, .bool false, .int .i64 0, .int .i64 0, .int .i64 0, .int .u8 0, .int .u8 0, .int .u8 0, .int .u8 0, .int .u8 0, .int .u8 0, .int .u8 0, .int .u8 0, .string ⟨#[]⟩] := ⟨by kernel_rfl⟩
instance : Fld Tryz.prog 39 0 0 1 := ⟨by kernel_rfl⟩
instance : Fld Tryz.prog 39 1 1 1 := ⟨by kernel_rfl⟩
instance : Fld Tryz.prog 39 2 2 1 := ⟨by kernel_rfl⟩
instance : Fld Tryz.prog 39 3 3 1 := ⟨by kernel_rfl⟩
instance : Fld Tryz.prog 39 4 4 1 := ⟨by kernel_rfl⟩
instance : Fld Tryz.prog 39 5 5 4 := ⟨by kernel_rfl⟩
instance : Fld Tryz.prog 39 6 9 4 := ⟨by kernel_rfl⟩
instance : Fld Tryz.prog 39 7 13 1 := ⟨by kernel_rfl⟩
instance : Pls Tryz.prog 39 [(0, 1), (1, 1), (2, 1), (3, 1), (4, 1), (5, 4), (9, 4), (13, 1)] := ⟨by kernel_rfl⟩
instance : One Tryz.prog 40 := ⟨by kernel_rfl⟩
instance : PtrT Tryz.prog 40 := ⟨by kernel_rfl⟩
instance : Agg Tryz.prog 46 5 := ⟨by kernel_rfl⟩
instance : Siz Tryz.prog 46 5 := ⟨by kernel_rfl⟩
instance : Zer Tryz.prog 46 [.int .i64 0, .int .i64 0, .int .i64 0, .int .i64 0, .string ⟨#[]⟩] := ⟨by kernel_rfl⟩
instance : Fld Tryz.prog 46 0 0 1 := ⟨by kernel_rfl⟩
instance : Fld Tryz.prog 46 1 1 1 := ⟨by kernel_rfl⟩
instance : Fld Tryz.prog 46 2 2 1 := ⟨by kernel_rfl⟩
instance : Fld Tryz.prog 46 3 3 1 := ⟨by kernel_rfl⟩
instance : Fld Tryz.prog 46 4 4 1 := ⟨by kernel_rfl⟩
instance : Pls Tryz.prog 46 [(0, 1), (1, 1), (2, 1), (3, 1), (4, 1)] := ⟨by kernel_rfl⟩
instance : Zer Tryz.prog 57 [.int .i64 0, .int .i64 0, .int .i64 0] := ⟨by kernel_rfl⟩
instance : Fld Tryz.prog 57 0 0 1 := ⟨by kernel_rfl⟩
instance : Fld Tryz.prog 57 1 1 1 := ⟨by kernel_rfl⟩
instance : Fld Tryz.prog 57 2 2 1 := ⟨by kernel_rfl⟩
instance : Pls Tryz.prog 57 [(0, 1), (1, 1), (2, 1)] := ⟨by kernel_rfl⟩
instance : One Tryz.prog 58 := ⟨by kernel_rfl⟩
instance : Siz Tryz.prog 58 1 := ⟨by kernel_rfl⟩
instance : Slc Tryz.prog 58 9 1 := ⟨by kernel_rfl⟩
instance : PtrT Tryz.prog 60 := ⟨by kernel_rfl⟩
instance : One Tryz.prog 63 := ⟨by kernel_rfl⟩
instance : Siz Tryz.prog 63 1 := ⟨by kernel_rfl⟩
instance : Slc Tryz.prog 63 3 1 := ⟨by kernel_rfl⟩
instance : One Tryz.prog 64 := ⟨by kernel_rfl⟩
instance : Slc Tryz.prog 64 149 3 := ⟨by kernel_rfl⟩
instance : One Tryz.prog 65 := ⟨by kernel_rfl⟩
instance : Siz Tryz.prog 65 1 := ⟨by kernel_rfl⟩
instance : Slc Tryz.prog 65 151 8 := ⟨by kernel_rfl⟩
instance : One Tryz.prog 66 := ⟨by kernel_rfl⟩
instance : Siz Tryz.prog 66 1 := ⟨by kernel_rfl⟩
instance : Slc Tryz.prog 66 153 11 := ⟨by kernel_rfl⟩
instance : Agg Tryz.prog 68 6 := ⟨by kernel_rfl⟩
instance : Siz Tryz.prog 68 6 := ⟨by kernel_rfl⟩
instance : Zer Tryz.prog 68 [.int .i64 0, .slice none 0 0, .int .i64 0, .slice none 0 0, .slice none 0 0, .slice none 0 0] := ⟨by kernel_rfl⟩
instance : Fld Tryz.prog 68 0 0 1 := ⟨by kernel_rfl⟩
instance : Fld Tryz.prog 68 1 1 1 := ⟨by kernel_rfl⟩
instance : Fld Tryz.prog 68 2 2 1 := ⟨by kernel_rfl⟩
instance : Fld Tryz.prog 68 3 3 1 := ⟨by kernel_rfl⟩
instance : Fld Tryz.prog 68 4 4 1 := ⟨by kernel_rfl⟩
instance : Fld Tryz.prog 68 5 5 1 := ⟨by kernel_rfl⟩
instance : Pls Tryz.prog 68 [(0, 1), (1, 1), (2, 1), (3, 1), (4, 1), (5, 1)] := ⟨by kernel_rfl⟩
instance : Agg Tryz.prog 74 4 := ⟨by kernel_rfl⟩
instance : Siz Tryz.prog 74 4 := ⟨by kernel_rfl⟩
instance : Zer Tryz.prog 74 [.int .i64 0, .string ⟨#[]⟩, .bool false, .int .i64 0] := ⟨by kernel_rfl⟩
instance : Fld Tryz.prog 74 0 0 1 := ⟨by kernel_rfl⟩
instance : Fld Tryz.prog 74 1 1 1 := ⟨by kernel_rfl⟩
instance : Pls Tryz.prog 74 [(0, 1), (1, 1), (2, 1), (3, 1)] := ⟨by kernel_rfl⟩
instance : Agg Tryz.prog 77 4 := ⟨by kernel_rfl⟩
instance : Zer Tryz.prog 77 [.int .i64 0, .int .i64 0, .string ⟨#[]⟩, .int .i64 0] := ⟨by kernel_rfl⟩
instance : Fld Tryz.prog 77 0 0 1 := ⟨by kernel_rfl⟩
instance : Fld Tryz.prog 77 1 1 1 := ⟨by kernel_rfl⟩
instance : Fld Tryz.prog 77 2 2 1 := ⟨by kernel_rfl⟩
instance : Fld Tryz.prog 77 3 3 1 := ⟨by kernel_rfl⟩
instance : Pls Tryz.prog 77 [(0, 1), (1, 1), (2, 1), (3, 1)] := ⟨by kernel_rfl⟩
instance : PtrT Tryz.prog 81 := ⟨by kernel_rfl⟩
instance : One Tryz.prog 82 := ⟨by kernel_rfl⟩
instance : Siz Tryz.prog 82 1 := ⟨by kernel_rfl⟩
instance : Slc Tryz.prog 82 5 1 := ⟨by kernel_rfl⟩
instance : Zer Tryz.prog 84 [.slice none 0 0, .bool false] := ⟨by kernel_rfl⟩
instance : Fld Tryz.prog 84 0 0 1 := ⟨by kernel_rfl⟩
instance : Fld Tryz.prog 84 1 1 1 := ⟨by kernel_rfl⟩
instance : Pls Tryz.prog 84 [(0, 1), (1, 1)] := ⟨by kernel_rfl⟩
instance : One Tryz.prog 93 := ⟨by kernel_rfl⟩
instance : One Tryz.prog 94 := ⟨by kernel_rfl⟩
instance : Siz Tryz.prog 94 1 := ⟨by kernel_rfl⟩
instance : Slc Tryz.prog 94 122 10 := ⟨by kernel_rfl⟩
instance : Zer Tryz.prog 96 [.map none, .slice none 0 0, .int .i64 0, .int .i64 0, .int .i64 0, .int .i64 0] := ⟨by kernel_rfl⟩
instance : Fld Tryz.prog 96 0 0 1 := ⟨by kernel_rfl⟩
instance : Fld Tryz.prog 96 1 1 1 := ⟨by kernel_rfl⟩
instance : Fld Tryz.prog 96 2 2 1 := ⟨by kernel_rfl⟩
instance : Fld Tryz.prog 96 3 3 1 := ⟨by kernel_rfl⟩
instance : Fld Tryz.prog 96 4 4 1 := ⟨by kernel_rfl⟩
instance : Fld Tryz.prog 96 5 5 1 := ⟨by kernel_rfl⟩
instance : Pls Tryz.prog 96 [(0, 1), (1, 1), (2, 1), (3, 1), (4, 1), (5, 1)] := ⟨by kernel_rfl⟩
instance : Agg Tryz.prog 102 6 := ⟨by kernel_rfl⟩
instance : Siz Tryz.prog 102 6 := ⟨by kernel_rfl⟩
instance : Zer Tryz.prog 102 [.int .u8 0, .int .u8 0, .int .u8 0, .int .u8 0, .int .u8 0, .int .u8 0] := ⟨by kernel_rfl⟩
instance : Arr Tryz.prog 102 6 5 1 := ⟨by kernel_rfl⟩
instance : Agg Tryz.prog 107 2 := ⟨by kernel_rfl⟩
instance : Siz Tryz.prog 107 2 := ⟨by kernel_rfl⟩
instance : Zer Tryz.prog 107 [.int .i64 0, .int .i64 0] := ⟨by kernel_rfl⟩
instance : Fld Tryz.prog 107 0 0 1 := ⟨by kernel_rfl⟩
instance : Fld Tryz.prog 107 1 1 1 := ⟨by kernel_rfl⟩
instance : Pls Tryz.prog 107 [(0, 1), (1, 1)] := ⟨by kernel_rfl⟩
instance : PtrT Tryz.prog 111 := ⟨by kernel_rfl⟩
instance : One Tryz.prog 119 := ⟨by kernel_rfl⟩
instance : Agg Tryz.prog 122 10 := ⟨by kernel_rfl⟩
instance : Siz Tryz.prog 122 10 := ⟨by kernel_rfl⟩
instance : Byt Tryz.prog 122 24 := ⟨by kernel_rfl⟩
instance : Zer Tryz.prog 122 [.int .u8 0, .int .u8 0, .int .u8 0, .int .u8 0, .int .u8 0, .int .u8 0, .int .u8 0, .int .u8 0, .int .i64 0, .int .i64 0] := ⟨by kernel_rfl⟩
instance : Pls Tryz.prog 122 [(0, 4), (4, 4), (8, 1), (9, 1)] := ⟨by kernel_rfl⟩
instance : PtrT Tryz.prog 124 := ⟨by kernel_rfl⟩
instance : Zer Tryz.prog 127 [.int .i64 0, .slice none 0 0] := ⟨by kernel_rfl⟩
instance : Fld Tryz.prog 127 0 0 1 := ⟨by kernel_rfl⟩
instance : Fld Tryz.prog 127 1 1 1 := ⟨by kernel_rfl⟩
instance : Pls Tryz.prog 127 [(0, 1), (1, 1)] := ⟨by kernel_rfl⟩
instance : Agg Tryz.prog 132 2 := ⟨by kernel_rfl⟩
instance : Siz Tryz.prog 132 2 := ⟨by kernel_rfl⟩
instance : Zer Tryz.prog 132 [.int .i64 0, .int .i64 0] := ⟨by kernel_rfl⟩
instance : Pls Tryz.prog 132 [(0, 1), (1, 1)] := ⟨by kernel_rfl⟩
instance : One Tryz.prog 135 := ⟨by kernel_rfl⟩
instance : One Tryz.prog 136 := ⟨by kernel_rfl⟩
instance : Siz Tryz.prog 136 1 := ⟨by kernel_rfl⟩
instance : Zer Tryz.prog 136 [.map none] := ⟨by kernel_rfl⟩
instance : One Tryz.prog 137 := ⟨by kernel_rfl⟩
instance : Siz Tryz.prog 137 1 := ⟨by kernel_rfl⟩
instance : Slc Tryz.prog 137 145 1 := ⟨by kernel_rfl⟩
instance : One Tryz.prog 138 := ⟨by kernel_rfl⟩
instance : Siz Tryz.prog 138 1 := ⟨by kernel_rfl⟩
instance : PtrT Tryz.prog 138 := ⟨by kernel_rfl⟩
instance : Agg Tryz.prog 139 2 := ⟨by kernel_rfl⟩
instance : Arr Tryz.prog 139 2 138 1 := ⟨by kernel_rfl⟩
instance : One Tryz.prog 140 := ⟨by kernel_rfl⟩
instance : Siz Tryz.prog 140 1 := ⟨by kernel_rfl⟩
instance : Slc Tryz.prog 140 343 4 := ⟨by kernel_rfl⟩
instance : Zer Tryz.prog 142 [.int .i64 0, .slice none 0 0, .int .i64 0, .slice none 0 0, .slice none 0 0, .slice none 0 0, .slice none 0 0, .pointer none, .pointer none, .map none, .map none, .slice none 0 0, .int .i64 0] := ⟨by kernel_rfl⟩
instance : Fld Tryz.prog 142 0 0 6 := ⟨by kernel_rfl⟩
instance : Fld Tryz.prog 142 1 6 1 := ⟨by kernel_rfl⟩
instance : Fld Tryz.prog 142 2 7 2 := ⟨by kernel_rfl⟩
instance : Fld Tryz.prog 142 3 9 1 := ⟨by kernel_rfl⟩
instance : Fld Tryz.prog 142 4 10 1 := ⟨by kernel_rfl⟩
instance : Fld Tryz.prog 142 5 11 1 := ⟨by kernel_rfl⟩
instance : Fld Tryz.prog 142 6 12 1 := ⟨by kernel_rfl⟩
instance : Pls Tryz.prog 142 [(0, 6), (6, 1), (7, 2), (9, 1), (10, 1), (11, 1), (12, 1)] := ⟨by kernel_rfl⟩
instance : One Tryz.prog 145 := ⟨by kernel_rfl⟩
instance : Byt Tryz.prog 145 8 := ⟨by kernel_rfl⟩
instance : Zer Tryz.prog 145 [.pointer none] := ⟨by kernel_rfl⟩
instance : PtrT Tryz.prog 145 := ⟨by kernel_rfl⟩
instance : Agg Tryz.prog 149 3 := ⟨by kernel_rfl⟩
instance : Siz Tryz.prog 149 3 := ⟨by kernel_rfl⟩
instance : Zer Tryz.prog 149 [.int .i64 0, .int .i64 0, .int .i64 0] := ⟨by kernel_rfl⟩
instance : Fld Tryz.prog 149 0 0 1 := ⟨by kernel_rfl⟩
instance : Fld Tryz.prog 149 1 1 1 := ⟨by kernel_rfl⟩
instance : Fld Tryz.prog 149 2 2 1 := ⟨by kernel_rfl⟩
instance : Pls Tryz.prog 149 [(0, 1), (1, 1), (2, 1)] := ⟨by kernel_rfl⟩
instance : Agg Tryz.prog 151 8 := ⟨by kernel_rfl⟩
instance : Siz Tryz.prog 151 8 := ⟨by kernel_rfl⟩
instance : Byt Tryz.prog 151 80 := ⟨by kernel_rfl⟩
instance : Zer Tryz.prog 151 [.int .i64 0, .int .i64 0, .int .i64 0, .int .i64 0, .bool false, .int .i64 0, .int .i64 0, .slice none 0 0] := ⟨by kernel_rfl⟩
instance : Fld Tryz.prog 151 0 0 1 := ⟨by kernel_rfl⟩
instance : Fld Tryz.prog 151 1 1 1 := ⟨by kernel_rfl⟩
instance : Fld Tryz.prog 151 2 2 1 := ⟨by kernel_rfl⟩
instance : Fld Tryz.prog 151 3 3 1 := ⟨by kernel_rfl⟩
instance : Fld Tryz.prog 151 4 4 1 := ⟨by kernel_rfl⟩
instance : Fld Tryz.prog 151 5 5 1 := ⟨by kernel_rfl⟩
instance : Fld Tryz.prog 151 6 6 1 := ⟨by kernel_rfl⟩
instance : Fld Tryz.prog 151 7 7 1 := ⟨by kernel_rfl⟩
instance : Pls Tryz.prog 151 [(0, 1), (1, 1), (2, 1), (3, 1), (4, 1), (5, 1), (6, 1), (7, 1)] := ⟨by kernel_rfl⟩
instance : Agg Tryz.prog 153 11 := ⟨by kernel_rfl⟩
instance : Siz Tryz.prog 153 11 := ⟨by kernel_rfl⟩
instance : Byt Tryz.prog 153 88 := ⟨by kernel_rfl⟩
instance : Zer Tryz.prog 153 [.int .i64 0, .int .i64 0, .int .i64 0, .int .i64 0, .bool false, .int .i64 0, .int .i64 0, .int .i64 0, .int .i64 0, .int .i64 0, .int .i64 0] := ⟨by kernel_rfl⟩
instance : Fld Tryz.prog 153 0 0 1 := ⟨by kernel_rfl⟩
instance : Fld Tryz.prog 153 1 1 1 := ⟨by kernel_rfl⟩
instance : Fld Tryz.prog 153 2 2 1 := ⟨by kernel_rfl⟩
instance : Fld Tryz.prog 153 3 3 1 := ⟨by kernel_rfl⟩
instance : Fld Tryz.prog 153 4 4 1 := ⟨by kernel_rfl⟩
instance : Fld Tryz.prog 153 5 5 1 := ⟨by kernel_rfl⟩
instance : Fld Tryz.prog 153 6 6 1 := ⟨by kernel_rfl⟩
instance : Fld Tryz.prog 153 7 7 1 := ⟨by kernel_rfl⟩
instance : Fld Tryz.prog 153 8 8 1 := ⟨by kernel_rfl⟩
instance : Fld Tryz.prog 153 9 9 1 := ⟨by kernel_rfl⟩
instance : Fld Tryz.prog 153 10 10 1 := ⟨by kernel_rfl⟩
instance : Pls Tryz.prog 153 [(0, 1), (1, 1), (2, 1), (3, 1), (4, 1), (5, 1), (6, 1), (7, 1), (8, 1), (9, 1), (10, 1)] := ⟨by kernel_rfl⟩
instance : One Tryz.prog 154 := ⟨by kernel_rfl⟩
instance : Zer Tryz.prog 154 [.nilFunc] := ⟨by kernel_rfl⟩
instance : One Tryz.prog 157 := ⟨by kernel_rfl⟩
instance : Siz Tryz.prog 157 1 := ⟨by kernel_rfl⟩
instance : IntT Tryz.prog 157 .u64 := ⟨by kernel_rfl⟩
instance : IntT Tryz.prog 160 .u64 := ⟨by kernel_rfl⟩
instance : IntT Tryz.prog 162 .u16 := ⟨by kernel_rfl⟩
instance : One Tryz.prog 166 := ⟨by kernel_rfl⟩
instance : Siz Tryz.prog 166 1 := ⟨by kernel_rfl⟩
instance : PtrT Tryz.prog 166 := ⟨by kernel_rfl⟩
instance : Zer Tryz.prog 168 [.pointer none, .slice none 0 0] := ⟨by kernel_rfl⟩
instance : Fld Tryz.prog 168 0 0 1 := ⟨by kernel_rfl⟩
instance : Fld Tryz.prog 168 1 1 1 := ⟨by kernel_rfl⟩
instance : One Tryz.prog 173 := ⟨by kernel_rfl⟩
instance : Siz Tryz.prog 173 1 := ⟨by kernel_rfl⟩
instance : IntT Tryz.prog 173 .u32 := ⟨by kernel_rfl⟩
instance : Zer Tryz.prog 176 [.string ⟨#[]⟩, .int .i64 0] := ⟨by kernel_rfl⟩
instance : Fld Tryz.prog 176 0 0 1 := ⟨by kernel_rfl⟩
instance : Fld Tryz.prog 176 1 1 1 := ⟨by kernel_rfl⟩
instance : Pls Tryz.prog 176 [(0, 1), (1, 1)] := ⟨by kernel_rfl⟩
instance : One Tryz.prog 183 := ⟨by kernel_rfl⟩
instance : Siz Tryz.prog 183 1 := ⟨by kernel_rfl⟩
instance : Zer Tryz.prog 183 [.pointer none] := ⟨by kernel_rfl⟩
instance : One Tryz.prog 184 := ⟨by kernel_rfl⟩
instance : Zer Tryz.prog 186 [.int .i64 0, .slice none 0 0, .int .i64 0, .slice none 0 0, .slice none 0 0, .slice none 0 0, .map none] := ⟨by kernel_rfl⟩
instance : Fld Tryz.prog 186 0 0 6 := ⟨by kernel_rfl⟩
instance : Fld Tryz.prog 186 1 6 1 := ⟨by kernel_rfl⟩
instance : Pls Tryz.prog 186 [(0, 6), (6, 1)] := ⟨by kernel_rfl⟩
instance : One Tryz.prog 187 := ⟨by kernel_rfl⟩
instance : Siz Tryz.prog 187 1 := ⟨by kernel_rfl⟩
instance : Zer Tryz.prog 187 [.map none] := ⟨by kernel_rfl⟩
instance : One Tryz.prog 188 := ⟨by kernel_rfl⟩
instance : Siz Tryz.prog 188 1 := ⟨by kernel_rfl⟩
instance : Zer Tryz.prog 188 [.nilFunc] := ⟨by kernel_rfl⟩
instance : Agg Tryz.prog 190 3 := ⟨by kernel_rfl⟩
instance : Siz Tryz.prog 190 3 := ⟨by kernel_rfl⟩
instance : Zer Tryz.prog 190 [.int .i64 0, .int .i64 0, .nilFunc] := ⟨by kernel_rfl⟩
instance : Fld Tryz.prog 190 1 1 1 := ⟨by kernel_rfl⟩
instance : Fld Tryz.prog 190 2 2 1 := ⟨by kernel_rfl⟩
instance : Pls Tryz.prog 190 [(0, 1), (1, 1), (2, 1)] := ⟨by kernel_rfl⟩
instance : Slc Tryz.prog 194 190 3 := ⟨by kernel_rfl⟩
instance : One Tryz.prog 196 := ⟨by kernel_rfl⟩
instance : One Tryz.prog 197 := ⟨by kernel_rfl⟩
instance : One Tryz.prog 198 := ⟨by kernel_rfl⟩
instance : Siz Tryz.prog 198 1 := ⟨by kernel_rfl⟩
instance : Slc Tryz.prog 198 202 1 := ⟨by kernel_rfl⟩
instance : One Tryz.prog 199 := ⟨by kernel_rfl⟩
instance : Siz Tryz.prog 199 1 := ⟨by kernel_rfl⟩
instance : Slc Tryz.prog 199 308 3 := ⟨by kernel_rfl⟩
instance : Zer Tryz.prog 201 [.int .i64 0, .slice none 0 0, .map none, .slice none 0 0, .int .i64 0, .map none] := ⟨by kernel_rfl⟩
instance : Fld Tryz.prog 201 0 0 1 := ⟨by kernel_rfl⟩
instance : Fld Tryz.prog 201 1 1 1 := ⟨by kernel_rfl⟩
instance : Fld Tryz.prog 201 2 2 1 := ⟨by kernel_rfl⟩
instance : Fld Tryz.prog 201 3 3 1 := ⟨by kernel_rfl⟩
instance : Fld Tryz.prog 201 4 4 1 := ⟨by kernel_rfl⟩
instance : Fld Tryz.prog 201 5 5 1 := ⟨by kernel_rfl⟩
instance : Pls Tryz.prog 201 [(0, 1), (1, 1), (2, 1), (3, 1), (4, 1), (5, 1)] := ⟨by kernel_rfl⟩
instance : One Tryz.prog 202 := ⟨by kernel_rfl⟩
instance : Byt Tryz.prog 202 8 := ⟨by kernel_rfl⟩
instance : Zer Tryz.prog 202 [.pointer none] := ⟨by kernel_rfl⟩
instance : PtrT Tryz.prog 202 := ⟨by kernel_rfl⟩
instance : One Tryz.prog 206 := ⟨by kernel_rfl⟩
instance : PtrT Tryz.prog 206 := ⟨by kernel_rfl⟩
instance : Agg Tryz.prog 210 4 := ⟨by kernel_rfl⟩
instance : Zer Tryz.prog 210 [.int .i64 0, .int .i64 0, .int .i64 0, .bool false] := ⟨by kernel_rfl⟩
instance : Fld Tryz.prog 210 0 0 1 := ⟨by kernel_rfl⟩
instance : Fld Tryz.prog 210 1 1 1 := ⟨by kernel_rfl⟩
instance : Fld Tryz.prog 210 2 2 1 := ⟨by kernel_rfl⟩
instance : Fld Tryz.prog 210 3 3 1 := ⟨by kernel_rfl⟩
instance : Pls Tryz.prog 210 [(0, 1), (1, 1), (2, 1), (3, 1)] := ⟨by kernel_rfl⟩
instance : One Tryz.prog 211 := ⟨by kernel_rfl⟩
instance : PtrT Tryz.prog 211 := ⟨by kernel_rfl⟩
instance : Zer Tryz.prog 213 [.int .i64 0, .int .i64 0, .int .i64 0, .int .i64 0, .bool false, .int .i64 0, .int .i64 0, .slice none 0 0, .pointer none, .int .i64 0] := ⟨by kernel_rfl⟩
instance : Fld Tryz.prog 213 0 0 8 := ⟨by kernel_rfl⟩
instance : Fld Tryz.prog 213 1 8 1 := ⟨by kernel_rfl⟩
instance : Fld Tryz.prog 213 2 9 1 := ⟨by kernel_rfl⟩
instance : Pls Tryz.prog 213 [(0, 8), (8, 1), (9, 1)] := ⟨by kernel_rfl⟩
instance : One Tryz.prog 214 := ⟨by kernel_rfl⟩
instance : Siz Tryz.prog 214 1 := ⟨by kernel_rfl⟩
instance : PtrT Tryz.prog 214 := ⟨by kernel_rfl⟩
instance : One Tryz.prog 215 := ⟨by kernel_rfl⟩
instance : Siz Tryz.prog 215 1 := ⟨by kernel_rfl⟩
instance : PtrT Tryz.prog 215 := ⟨by kernel_rfl⟩
instance : One Tryz.prog 216 := ⟨by kernel_rfl⟩
instance : Siz Tryz.prog 216 1 := ⟨by kernel_rfl⟩
instance : PtrT Tryz.prog 216 := ⟨by kernel_rfl⟩
instance : Zer Tryz.prog 218 [.int .i64 0, .slice none 0 0, .int .i64 0, .slice none 0 0, .slice none 0 0, .slice none 0 0, .int .i64 0, .pointer none, .pointer none, .pointer none, .map none, .int .i64 0] := ⟨by kernel_rfl⟩
instance : Fld Tryz.prog 218 0 0 6 := ⟨by kernel_rfl⟩
instance : Fld Tryz.prog 218 2 7 1 := ⟨by kernel_rfl⟩
instance : Fld Tryz.prog 218 3 8 1 := ⟨by kernel_rfl⟩
instance : Fld Tryz.prog 218 4 9 1 := ⟨by kernel_rfl⟩
instance : Fld Tryz.prog 218 5 10 1 := ⟨by kernel_rfl⟩
instance : Fld Tryz.prog 218 6 11 1 := ⟨by kernel_rfl⟩
instance : Pls Tryz.prog 218 [(0, 6), (6, 1), (7, 1), (8, 1), (9, 1), (10, 1), (11, 1)] := ⟨by kernel_rfl⟩
instance : One Tryz.prog 226 := ⟨by kernel_rfl⟩
instance : Agg Tryz.prog 227 6 := ⟨by kernel_rfl⟩
instance : Siz Tryz.prog 227 6 := ⟨by kernel_rfl⟩
instance : Zer Tryz.prog 227 [.nilFunc, .nilFunc, .nilFunc, .nilFunc, .nilFunc, .nilFunc] := ⟨by kernel_rfl⟩
instance : Arr Tryz.prog 227 6 226 1 := ⟨by kernel_rfl⟩
instance : Agg Tryz.prog 230 6 := ⟨by kernel_rfl⟩
instance : Zer Tryz.prog 230 [.int .i64 0, .int .i64 0, .string ⟨#[]⟩, .int .i64 0, .int .i64 0, .int .i64 0] := ⟨by kernel_rfl⟩
instance : Fld Tryz.prog 230 0 0 4 := ⟨by kernel_rfl⟩
instance : Fld Tryz.prog 230 1 4 1 := ⟨by kernel_rfl⟩
instance : Fld Tryz.prog 230 2 5 1 := ⟨by kernel_rfl⟩
instance : Pls Tryz.prog 230 [(0, 4), (4, 1), (5, 1)] := ⟨by kernel_rfl⟩
instance : PtrT Tryz.prog 235 := ⟨by kernel_rfl⟩
instance : PtrT Tryz.prog 236 := ⟨by kernel_rfl⟩
instance : Agg Tryz.prog 245 4 := ⟨by kernel_rfl⟩
instance : Siz Tryz.prog 245 4 := ⟨by kernel_rfl⟩
instance : Zer Tryz.prog 245 [.int .i64 0, .bool false, .int .i64 0, .int .i64 0] := ⟨by kernel_rfl⟩
instance : Pls Tryz.prog 245 [(0, 1), (1, 1), (2, 1), (3, 1)] := ⟨by kernel_rfl⟩
instance : Zer Tryz.prog 246 [.int .i64 0, .int .i64 0] := ⟨by kernel_rfl⟩
instance : Arr Tryz.prog 246 2 3 1 := ⟨by kernel_rfl⟩
instance : One Tryz.prog 247 := ⟨by kernel_rfl⟩
instance : Slc Tryz.prog 247 379 2 := ⟨by kernel_rfl⟩
instance : Arr Tryz.prog 248 2 247 1 := ⟨by kernel_rfl⟩
instance : Agg Tryz.prog 250 4 := ⟨by kernel_rfl⟩
instance : Siz Tryz.prog 250 4 := ⟨by kernel_rfl⟩
instance : Byt Tryz.prog 250 40 := ⟨by kernel_rfl⟩
instance : Zer Tryz.prog 250 [.int .i64 0, .string ⟨#[]⟩, .int .i64 0, .int .i64 0] := ⟨by kernel_rfl⟩
instance : Fld Tryz.prog 250 0 0 1 := ⟨by kernel_rfl⟩
instance : Fld Tryz.prog 250 1 1 1 := ⟨by kernel_rfl⟩
instance : Fld Tryz.prog 250 2 2 1 := ⟨by kernel_rfl⟩
instance : Fld Tryz.prog 250 3 3 1 := ⟨by kernel_rfl⟩
instance : Pls Tryz.prog 250 [(0, 1), (1, 1), (2, 1), (3, 1)] := ⟨by kernel_rfl⟩
instance : One Tryz.prog 251 := ⟨by kernel_rfl⟩
instance : Siz Tryz.prog 251 1 := ⟨by kernel_rfl⟩
instance : Slc Tryz.prog 251 250 4 := ⟨by kernel_rfl⟩
instance : Zer Tryz.prog 253 [.slice none 0 0, .slice none 0 0, .int .i64 0, .int .i64 0, .int .i64 0, .int .i64 0, .bool false, .int .i64 0, .string ⟨#[]⟩, .int .i64 0, .int .i64 0, .slice none 0 0, .int .i64 0] := ⟨by kernel_rfl⟩
instance : Fld Tryz.prog 253 0 0 2 := ⟨by kernel_rfl⟩
instance : Fld Tryz.prog 253 3 6 1 := ⟨by kernel_rfl⟩
instance : Fld Tryz.prog 253 4 7 4 := ⟨by kernel_rfl⟩
instance : Fld Tryz.prog 253 5 11 1 := ⟨by kernel_rfl⟩
instance : Fld Tryz.prog 253 6 12 1 := ⟨by kernel_rfl⟩
instance : Pls Tryz.prog 253 [(0, 2), (2, 2), (4, 2), (6, 1), (7, 4), (11, 1), (12, 1)] := ⟨by kernel_rfl⟩
instance : Zer Tryz.prog 255 [.int .i64 0, .int .i64 0, .int .i64 0, .bool false, .int .i64 0, .int .i64 0, .int .i64 0, .int .i64 0] := ⟨by kernel_rfl⟩
instance : Fld Tryz.prog 255 0 0 4 := ⟨by kernel_rfl⟩
instance : Fld Tryz.prog 255 1 4 1 := ⟨by kernel_rfl⟩
instance : Fld Tryz.prog 255 2 5 1 := ⟨by kernel_rfl⟩
instance : Fld Tryz.prog 255 3 6 1 := ⟨by kernel_rfl⟩
instance : Pls Tryz.prog 255 [(0, 4), (4, 1), (5, 1), (6, 1), (7, 1)] := ⟨by kernel_rfl⟩
instance : One Tryz.prog 256 := ⟨by kernel_rfl⟩
instance : One Tryz.prog 258 := ⟨by kernel_rfl⟩
instance : PtrT Tryz.prog 258 := ⟨by kernel_rfl⟩
instance : One Tryz.prog 260 := ⟨by kernel_rfl⟩
instance : One Tryz.prog 261 := ⟨by kernel_rfl⟩
instance : Siz Tryz.prog 261 1 := ⟨by kernel_rfl⟩
instance : Slc Tryz.prog 261 299 5 := ⟨by kernel_rfl⟩
instance : Zer Tryz.prog 263 [.int .i64 0, .slice none 0 0, .int .i64 0, .slice none 0 0, .slice none 0 0, .slice none 0 0, .int .i64 0, .map none, .slice none 0 0, .pointer none, .int .i64 0, .int .i64 0, .map none, .int .i64 0, .slice none 0 0] := ⟨by kernel_rfl⟩
instance : Fld Tryz.prog 263 0 0 6 := ⟨by kernel_rfl⟩
instance : Fld Tryz.prog 263 1 6 1 := ⟨by kernel_rfl⟩
instance : Fld Tryz.prog 263 2 7 1 := ⟨by kernel_rfl⟩
instance : Fld Tryz.prog 263 3 8 1 := ⟨by kernel_rfl⟩
instance : Fld Tryz.prog 263 4 9 1 := ⟨by kernel_rfl⟩
instance : Fld Tryz.prog 263 5 10 1 := ⟨by kernel_rfl⟩
instance : Fld Tryz.prog 263 6 11 1 := ⟨by kernel_rfl⟩
instance : Fld Tryz.prog 263 7 12 1 := ⟨by kernel_rfl⟩
instance : Fld Tryz.prog 263 8 13 1 := ⟨by kernel_rfl⟩
instance : Fld Tryz.prog 263 9 14 1 := ⟨by kernel_rfl⟩
instance : Pls Tryz.prog 263 [(0, 6), (6, 1), (7, 1), (8, 1), (9, 1), (10, 1), (11, 1), (12, 1), (13, 1), (14, 1)] := ⟨by kernel_rfl⟩
instance : PtrT Tryz.prog 265 := ⟨by kernel_rfl⟩
instance : One Tryz.prog 266 := ⟨by kernel_rfl⟩
instance : Siz Tryz.prog 266 1 := ⟨by kernel_rfl⟩
instance : PtrT Tryz.prog 266 := ⟨by kernel_rfl⟩
instance : One Tryz.prog 267 := ⟨by kernel_rfl⟩
instance : Siz Tryz.prog 267 1 := ⟨by kernel_rfl⟩
instance : PtrT Tryz.prog 267 := ⟨by kernel_rfl⟩
instance : Zer Tryz.prog 269 [.int .i64 0, .int .i64 0, .int .i64 0, .int .i64 0, .bool false, .int .i64 0, .int .i64 0, .slice none 0 0, .pointer none, .pointer none, .int .i64 0, .int .i64 0] := ⟨by kernel_rfl⟩
instance : Fld Tryz.prog 269 0 0 8 := ⟨by kernel_rfl⟩
instance : Fld Tryz.prog 269 1 8 1 := ⟨by kernel_rfl⟩
instance : Fld Tryz.prog 269 2 9 1 := ⟨by kernel_rfl⟩
instance : Fld Tryz.prog 269 3 10 1 := ⟨by kernel_rfl⟩
instance : Fld Tryz.prog 269 4 11 1 := ⟨by kernel_rfl⟩
instance : Pls Tryz.prog 269 [(0, 8), (8, 1), (9, 1), (10, 1), (11, 1)] := ⟨by kernel_rfl⟩
instance : One Tryz.prog 275 := ⟨by kernel_rfl⟩
instance : Zer Tryz.prog 277 [.int .i64 0, .slice none 0 0, .int .i64 0, .slice none 0 0, .slice none 0 0, .slice none 0 0, .int .i64 0, .map none, .pointer none, .int .i64 0, .map none] := ⟨by kernel_rfl⟩
instance : Fld Tryz.prog 277 0 0 6 := ⟨by kernel_rfl⟩
instance : Fld Tryz.prog 277 1 6 1 := ⟨by kernel_rfl⟩
instance : Fld Tryz.prog 277 2 7 1 := ⟨by kernel_rfl⟩
instance : Fld Tryz.prog 277 3 8 1 := ⟨by kernel_rfl⟩
instance : Fld Tryz.prog 277 4 9 1 := ⟨by kernel_rfl⟩
instance : Fld Tryz.prog 277 5 10 1 := ⟨by kernel_rfl⟩
instance : Pls Tryz.prog 277 [(0, 6), (6, 1), (7, 1), (8, 1), (9, 1), (10, 1)] := ⟨by kernel_rfl⟩
instance : One Tryz.prog 278 := ⟨by kernel_rfl⟩
instance : Siz Tryz.prog 278 1 := ⟨by kernel_rfl⟩
instance : PtrT Tryz.prog 278 := ⟨by kernel_rfl⟩
instance : One Tryz.prog 279 := ⟨by kernel_rfl⟩
instance : Siz Tryz.prog 279 1 := ⟨by kernel_rfl⟩
instance : PtrT Tryz.prog 279 := ⟨by kernel_rfl⟩
instance : Arr Tryz.prog 280 2 279 1 := ⟨by kernel_rfl⟩
instance : One Tryz.prog 281 := ⟨by kernel_rfl⟩
instance : Siz Tryz.prog 281 1 := ⟨by kernel_rfl⟩
instance : PtrT Tryz.prog 281 := ⟨by kernel_rfl⟩
instance : Zer Tryz.prog 283 [.int .i64 0, .int .i64 0, .int .i64 0, .int .i64 0, .bool false, .int .i64 0, .int .i64 0, .slice none 0 0, .pointer none, .pointer none, .pointer none] := ⟨by kernel_rfl⟩
instance : Fld Tryz.prog 283 0 0 8 := ⟨by kernel_rfl⟩
instance : Fld Tryz.prog 283 1 8 2 := ⟨by kernel_rfl⟩
instance : Fld Tryz.prog 283 2 10 1 := ⟨by kernel_rfl⟩
instance : Pls Tryz.prog 283 [(0, 8), (8, 2), (10, 1)] := ⟨by kernel_rfl⟩
instance : One Tryz.prog 287 := ⟨by kernel_rfl⟩
instance : Zer Tryz.prog 289 [.map none] := ⟨by kernel_rfl⟩
instance : Fld Tryz.prog 289 0 0 1 := ⟨by kernel_rfl⟩
instance : Pls Tryz.prog 289 [(0, 1)] := ⟨by kernel_rfl⟩
instance : One Tryz.prog 291 := ⟨by kernel_rfl⟩
instance : Agg Tryz.prog 294 12 := ⟨by kernel_rfl⟩
instance : Siz Tryz.prog 294 12 := ⟨by kernel_rfl⟩
instance : Zer Tryz.prog 294 [.int .i64 0, .int .i64 0, .int .i64 0, .int .i64 0, .bool false, .int .i64 0, .int .i64 0, .int .i64 0, .int .i64 0, .int .i64 0, .int .i64 0, .nilIface] := ⟨by kernel_rfl⟩
instance : Fld Tryz.prog 294 0 0 11 := ⟨by kernel_rfl⟩
instance : Fld Tryz.prog 294 1 11 1 := ⟨by kernel_rfl⟩
instance : Pls Tryz.prog 294 [(0, 11), (11, 1)] := ⟨by kernel_rfl⟩
instance : Agg Tryz.prog 297 2 := ⟨by kernel_rfl⟩
instance : Siz Tryz.prog 297 2 := ⟨by kernel_rfl⟩
instance : Zer Tryz.prog 297 [.string ⟨#[]⟩, .string ⟨#[]⟩] := ⟨by kernel_rfl⟩
instance : Arr Tryz.prog 297 2 9 1 := ⟨by kernel_rfl⟩
instance : Agg Tryz.prog 299 5 := ⟨by kernel_rfl⟩
instance : Siz Tryz.prog 299 5 := ⟨by kernel_rfl⟩
instance : Byt Tryz.prog 299 56 := ⟨by kernel_rfl⟩
instance : Zer Tryz.prog 299 [.int .i64 0, .int .i64 0, .int .i64 0, .string ⟨#[]⟩, .string ⟨#[]⟩] := ⟨by kernel_rfl⟩
instance : Fld Tryz.prog 299 0 0 1 := ⟨by kernel_rfl⟩
instance : Fld Tryz.prog 299 1 1 1 := ⟨by kernel_rfl⟩
instance : Fld Tryz.prog 299 2 2 1 := ⟨by kernel_rfl⟩
instance : Fld Tryz.prog 299 3 3 2 := ⟨by kernel_rfl⟩
instance : Pls Tryz.prog 299 [(0, 1), (1, 1), (2, 1), (3, 2)] := ⟨by kernel_rfl⟩
instance : Slc Tryz.prog 301 305 5 := ⟨by kernel_rfl⟩
instance : Agg Tryz.prog 305 5 := ⟨by kernel_rfl⟩
instance : Siz Tryz.prog 305 5 := ⟨by kernel_rfl⟩
instance : Byt Tryz.prog 305 48 := ⟨by kernel_rfl⟩
instance : Zer Tryz.prog 305 [.int .i64 0, .int .i64 0, .string ⟨#[]⟩, .int .i64 0, .int .i64 0] := ⟨by kernel_rfl⟩
instance : Fld Tryz.prog 305 0 0 1 := ⟨by kernel_rfl⟩
instance : Fld Tryz.prog 305 2 2 1 := ⟨by kernel_rfl⟩
instance : Pls Tryz.prog 305 [(0, 1), (1, 1), (2, 1), (3, 1), (4, 1)] := ⟨by kernel_rfl⟩
instance : Agg Tryz.prog 308 3 := ⟨by kernel_rfl⟩
instance : Siz Tryz.prog 308 3 := ⟨by kernel_rfl⟩
instance : Byt Tryz.prog 308 32 := ⟨by kernel_rfl⟩
instance : Zer Tryz.prog 308 [.int .i64 0, .pointer none, .string ⟨#[]⟩] := ⟨by kernel_rfl⟩
instance : Fld Tryz.prog 308 0 0 1 := ⟨by kernel_rfl⟩
instance : Fld Tryz.prog 308 1 1 1 := ⟨by kernel_rfl⟩
instance : Fld Tryz.prog 308 2 2 1 := ⟨by kernel_rfl⟩
instance : Pls Tryz.prog 308 [(0, 1), (1, 1), (2, 1)] := ⟨by kernel_rfl⟩
instance : Arr Tryz.prog 317 256 173 1 := ⟨by kernel_rfl⟩
instance : Zer Tryz.prog 323 [.slice none 0 0, .int .i64 0, .int .i64 0] := ⟨by kernel_rfl⟩
instance : Fld Tryz.prog 323 0 0 1 := ⟨by kernel_rfl⟩
instance : Fld Tryz.prog 323 1 1 1 := ⟨by kernel_rfl⟩
instance : Fld Tryz.prog 323 2 2 1 := ⟨by kernel_rfl⟩
instance : Pls Tryz.prog 323 [(0, 1), (1, 1), (2, 1)] := ⟨by kernel_rfl⟩
instance : Arr Tryz.prog 324 4 58 1 := ⟨by kernel_rfl⟩
instance : Zer Tryz.prog 326 [.slice none 0 0, .slice none 0 0, .slice none 0 0, .slice none 0 0, .int .i64 0, .int .i64 0, .int .i64 0, .int .i64 0] := ⟨by kernel_rfl⟩
instance : Fld Tryz.prog 326 0 0 4 := ⟨by kernel_rfl⟩
instance : Fld Tryz.prog 326 1 4 1 := ⟨by kernel_rfl⟩
instance : Fld Tryz.prog 326 2 5 1 := ⟨by kernel_rfl⟩
instance : Fld Tryz.prog 326 3 6 1 := ⟨by kernel_rfl⟩
instance : Fld Tryz.prog 326 4 7 1 := ⟨by kernel_rfl⟩
instance : Pls Tryz.prog 326 [(0, 4), (4, 1), (5, 1), (6, 1), (7, 1)] := ⟨by kernel_rfl⟩
instance : Agg Tryz.prog 328 2 := ⟨by kernel_rfl⟩
instance : Siz Tryz.prog 328 2 := ⟨by kernel_rfl⟩
instance : Zer Tryz.prog 328 [.bool false, .int .i64 0] := ⟨by kernel_rfl⟩
instance : Pls Tryz.prog 328 [(0, 1), (1, 1)] := ⟨by kernel_rfl⟩
instance : Zer Tryz.prog 330 [.int .u64 0, .bool false, .int .i64 0, .int .i64 0, .int .i64 0] := ⟨by kernel_rfl⟩
instance : Fld Tryz.prog 330 0 0 1 := ⟨by kernel_rfl⟩
instance : Fld Tryz.prog 330 1 1 2 := ⟨by kernel_rfl⟩
instance : Fld Tryz.prog 330 2 3 1 := ⟨by kernel_rfl⟩
instance : Fld Tryz.prog 330 3 4 1 := ⟨by kernel_rfl⟩
instance : Pls Tryz.prog 330 [(0, 1), (1, 2), (3, 1), (4, 1)] := ⟨by kernel_rfl⟩
instance : Zer Tryz.prog 332 [.bool false, .int .i64 0, .int .i64 0, .bool false, .int .i64 0, .int .i64 0] := ⟨by kernel_rfl⟩
instance : Fld Tryz.prog 332 0 0 1 := ⟨by kernel_rfl⟩
instance : Fld Tryz.prog 332 1 1 1 := ⟨by kernel_rfl⟩
instance : Fld Tryz.prog 332 3 3 1 := ⟨by kernel_rfl⟩
instance : Pls Tryz.prog 332 [(0, 1), (1, 1), (2, 1), (3, 1), (4, 1), (5, 1)] := ⟨by kernel_rfl⟩
instance : One Tryz.prog 333 := ⟨by kernel_rfl⟩
instance : Siz Tryz.prog 333 1 := ⟨by kernel_rfl⟩
instance : Slc Tryz.prog 333 425 3 := ⟨by kernel_rfl⟩
instance : Zer Tryz.prog 335 [.slice none 0 0, .int .i64 0, .int .i64 0, .int .i64 0, .int .i64 0, .int .i64 0] := ⟨by kernel_rfl⟩
instance : Fld Tryz.prog 335 0 0 1 := ⟨by kernel_rfl⟩
instance : Fld Tryz.prog 335 1 1 1 := ⟨by kernel_rfl⟩
instance : Fld Tryz.prog 335 2 2 1 := ⟨by kernel_rfl⟩
instance : Fld Tryz.prog 335 3 3 1 := ⟨by kernel_rfl⟩
instance : Fld Tryz.prog 335 4 4 1 := ⟨by kernel_rfl⟩
instance : Pls Tryz.prog 335 [(0, 1), (1, 1), (2, 1), (3, 1), (4, 1), (5, 1)] := ⟨by kernel_rfl⟩
instance : Zer Tryz.prog 338 [.string ⟨#[]⟩, .int .i64 0, .bool false] := ⟨by kernel_rfl⟩
instance : Pls Tryz.prog 338 [(0, 1), (1, 1), (2, 1)] := ⟨by kernel_rfl⟩
instance : Zer Tryz.prog 341 [.slice none 0 0, .int .i64 0, .bool false] := ⟨by kernel_rfl⟩
instance : Fld Tryz.prog 341 0 0 1 := ⟨by kernel_rfl⟩
instance : Fld Tryz.prog 341 1 1 1 := ⟨by kernel_rfl⟩
instance : Fld Tryz.prog 341 2 2 1 := ⟨by kernel_rfl⟩
instance : Pls Tryz.prog 341 [(0, 1), (1, 1), (2, 1)] := ⟨by kernel_rfl⟩
instance : Agg Tryz.prog 343 4 := ⟨by kernel_rfl⟩
instance : Siz Tryz.prog 343 4 := ⟨by kernel_rfl⟩
instance : Zer Tryz.prog 343 [.int .i64 0, .int .i64 0, .int .i64 0, .string ⟨#[]⟩] := ⟨by kernel_rfl⟩
instance : Fld Tryz.prog 343 1 1 1 := ⟨by kernel_rfl⟩
instance : Fld Tryz.prog 343 2 2 1 := ⟨by kernel_rfl⟩
instance : Fld Tryz.prog 343 3 3 1 := ⟨by kernel_rfl⟩
instance : Pls Tryz.prog 343 [(0, 1), (1, 1), (2, 1), (3, 1)] := ⟨by kernel_rfl⟩
instance : Zer Tryz.prog 348 [.int .i64 0, .int .i64 0, .int .i64 0] := ⟨by kernel_rfl⟩
instance : Pls Tryz.prog 348 [(0, 1), (1, 1), (2, 1)] := ⟨by kernel_rfl⟩
instance : Agg Tryz.prog 355 3 := ⟨by kernel_rfl⟩
instance : Siz Tryz.prog 355 3 := ⟨by kernel_rfl⟩
instance : Zer Tryz.prog 355 [.int .i64 0, .int .i64 0, .string ⟨#[]⟩] := ⟨by kernel_rfl⟩
instance : Fld Tryz.prog 355 0 0 1 := ⟨by kernel_rfl⟩
instance : Fld Tryz.prog 355 2 2 1 := ⟨by kernel_rfl⟩
instance : Pls Tryz.prog 355 [(0, 1), (1, 1), (2, 1)] := ⟨by kernel_rfl⟩
instance : One Tryz.prog 371 := ⟨by kernel_rfl⟩
instance : Zer Tryz.prog 373 [.int .i64 0, .int .i64 0, .int .i64 0, .int .i64 0, .string ⟨#[]⟩, .pointer none, .int .i64 0, .int .i64 0, .string ⟨#[]⟩, .int .i64 0, .bool false, .int .i64 0, .int .i64 0, .int .i64 0, .int .u8 0, .int .u8 0, .int .u8 0, .int .u8 0, .int .u8 0, .int .u8 0, .int .u8 0, .int .u8 0, .string ⟨#[]⟩, .bool false, .int .i64 0, .int .i64 0, .string ⟨#[]⟩] := ⟨by kernel_rfl⟩
instance : Fld Tryz.prog 373 0 0 5 := ⟨by kernel_rfl⟩
instance : Fld Tryz.prog 373 1 5 1 := ⟨by kernel_rfl⟩
instance : Fld Tryz.prog 373 2 6 1 := ⟨by kernel_rfl⟩
instance : Fld Tryz.prog 373 3 7 1 := ⟨by kernel_rfl⟩
instance : Fld Tryz.prog 373 4 8 1 := ⟨by kernel_rfl⟩
instance : Fld Tryz.prog 373 5 9 14 := ⟨by kernel_rfl⟩
instance : Fld Tryz.prog 373 6 23 1 := ⟨by kernel_rfl⟩
instance : Fld Tryz.prog 373 7 24 3 := ⟨by kernel_rfl⟩
instance : Pls Tryz.prog 373 [(0, 5), (5, 1), (6, 1), (7, 1), (8, 1), (9, 14), (23, 1), (24, 3)] := ⟨by kernel_rfl⟩
instance : One Tryz.prog 374 := ⟨by kernel_rfl⟩
instance : Zer Tryz.prog 374 [.nilFunc] := ⟨by kernel_rfl⟩
instance : Agg Tryz.prog 379 2 := ⟨by kernel_rfl⟩
instance : Siz Tryz.prog 379 2 := ⟨by kernel_rfl⟩
instance : Zer Tryz.prog 379 [.int .i64 0, .string ⟨#[]⟩] := ⟨by kernel_rfl⟩
instance : Fld Tryz.prog 379 0 0 1 := ⟨by kernel_rfl⟩
instance : Fld Tryz.prog 379 1 1 1 := ⟨by kernel_rfl⟩
instance : Pls Tryz.prog 379 [(0, 1), (1, 1)] := ⟨by kernel_rfl⟩
instance : Slc Tryz.prog 398 374 1 := ⟨by kernel_rfl⟩
instance : Byt Tryz.prog 425 24 := ⟨by kernel_rfl⟩
instance : Zer Tryz.prog 425 [.int .i64 0, .int .i64 0, .int .u64 0] := ⟨by kernel_rfl⟩
instance : Fld Tryz.prog 425 0 0 1 := ⟨by kernel_rfl⟩
instance : Fld Tryz.prog 425 1 1 1 := ⟨by kernel_rfl⟩
instance : Fld Tryz.prog 425 2 2 1 := ⟨by kernel_rfl⟩
instance : Pls Tryz.prog 425 [(0, 1), (1, 1), (2, 1)] := ⟨by kernel_rfl⟩
instance : Slc Tryz.prog 429 154 1 := ⟨by kernel_rfl⟩
instance : EqT Tryz.prog 25 [.int .u8, .int .u8, .int .u8, .int .u8] := ⟨by kernel_rfl, by kernel_rfl, by kernel_rfl, by kernel_rfl⟩
instance : EqT Tryz.prog 32 [.int .u8, .int .u8, .int .u8, .int .u8, .int .u8, .int .u8, .int .u8, .int .u8, .int .i64, .int .i64] := ⟨by kernel_rfl, by kernel_rfl, by kernel_rfl, by kernel_rfl⟩
instance : EqT Tryz.prog 39 [.int .i64, .bool, .int .i64, .int .i64, .int .i64, .int .u8, .int .u8, .int .u8, .int .u8, .int .u8, .int .u8, .int .u8, .int .u8, .str] := ⟨by kernel_rfl, by kernel_rfl, by kernel_rfl, by kernel_rfl⟩
instance : EqT Tryz.prog 102 [.int .u8, .int .u8, .int .u8, .int .u8, .int .u8, .int .u8] := ⟨by kernel_rfl, by kernel_rfl, by kernel_rfl, by kernel_rfl⟩
instance : EqT Tryz.prog 122 [.int .u8, .int .u8, .int .u8, .int .u8, .int .u8, .int .u8, .int .u8, .int .u8, .int .i64, .int .i64] := ⟨by kernel_rfl, by kernel_rfl, by kernel_rfl, by kernel_rfl⟩
instance : EqT Tryz.prog 328 [.bool, .int .i64] := ⟨by kernel_rfl, by kernel_rfl, by kernel_rfl, by kernel_rfl⟩
instance : Fun Tryz.prog 5 := ⟨by kernel_rfl⟩
instance : Fun Tryz.prog 6 := ⟨by kernel_rfl⟩
instance : Fun Tryz.prog 7 := ⟨by kernel_rfl⟩
instance : Fun Tryz.prog 8 := ⟨by kernel_rfl⟩
instance : Fun Tryz.prog 9 := ⟨by kernel_rfl⟩
instance : Fun Tryz.prog 10 := ⟨by kernel_rfl⟩
instance : Fun Tryz.prog 11 := ⟨by kernel_rfl⟩
instance : Fun Tryz.prog 12 := ⟨by kernel_rfl⟩
instance : Fun Tryz.prog 13 := ⟨by kernel_rfl⟩
instance : Fun Tryz.prog 14 := ⟨by kernel_rfl⟩
instance : Fun Tryz.prog 15 := ⟨by kernel_rfl⟩
instance : Fun Tryz.prog 16 := ⟨by kernel_rfl⟩
instance : Fun Tryz.prog 17 := ⟨by kernel_rfl⟩
instance : Fun Tryz.prog 18 := ⟨by kernel_rfl⟩
instance : Fun Tryz.prog 19 := ⟨by kernel_rfl⟩
instance : Fun Tryz.prog 22 := ⟨by kernel_rfl⟩
instance : Fun Tryz.prog 23 := ⟨by kernel_rfl⟩
instance : Fun Tryz.prog 24 := ⟨by kernel_rfl⟩
instance : Fun Tryz.prog 25 := ⟨by kernel_rfl⟩
instance : Fun Tryz.prog 26 := ⟨by kernel_rfl⟩
instance : Fun Tryz.prog 27 := ⟨by kernel_rfl⟩
instance : Fun Tryz.prog 28 := ⟨by kernel_rfl⟩
instance : Fun Tryz.prog 29 := ⟨by kernel_rfl⟩
instance : Fun Tryz.prog 30 := ⟨by kernel_rfl⟩
instance : Fun Tryz.prog 31 := ⟨by kernel_rfl⟩
instance : Fun Tryz.prog 32 := ⟨by kernel_rfl⟩
instance : Fun Tryz.prog 33 := ⟨by kernel_rfl⟩
instance : Fun Tryz.prog 34 := ⟨by kernel_rfl⟩
instance : Fun Tryz.prog 35 := ⟨by kernel_rfl⟩
instance : Fun Tryz.prog 36 := ⟨by kernel_rfl⟩
instance : Fun Tryz.prog 37 := ⟨by kernel_rfl⟩
instance : Fun Tryz.prog 38 := ⟨by kernel_rfl⟩
instance : Fun Tryz.prog 39 := ⟨by kernel_rfl⟩
instance : Fun Tryz.prog 40 := ⟨by kernel_rfl⟩
instance : Fun Tryz.prog 41 := ⟨by kernel_rfl⟩
instance : Fun Tryz.prog 42 := ⟨by kernel_rfl⟩
instance : Fun Tryz.prog 43 := ⟨by kernel_rfl⟩
instance : Fun Tryz.prog 44 := ⟨by kernel_rfl⟩
instance : Fun Tryz.prog 45 := ⟨by kernel_rfl⟩
instance : Fun Tryz.prog 46 := ⟨by kernel_rfl⟩
instance : Fun Tryz.prog 47 := ⟨by kernel_rfl⟩
instance : Fun Tryz.prog 48 := ⟨by kernel_rfl⟩
instance : Fun Tryz.prog 49 := ⟨by kernel_rfl⟩
instance : Fun Tryz.prog 50 := ⟨by kernel_rfl⟩
instance : Fun Tryz.prog 51 := ⟨by kernel_rfl⟩
instance : Fun Tryz.prog 52 := ⟨by kernel_rfl⟩
instance : Fun Tryz.prog 53 := ⟨by kernel_rfl⟩
instance : Fun Tryz.prog 54 := ⟨by kernel_rfl⟩
instance : Fun Tryz.prog 55 := ⟨by kernel_rfl⟩
instance : Fun Tryz.prog 56 := ⟨by kernel_rfl⟩
instance : Fun Tryz.prog 57 := ⟨by kernel_rfl⟩
instance : Fun Tryz.prog 58 := ⟨by kernel_rfl⟩
instance : Fun Tryz.prog 59 := ⟨by kernel_rfl⟩
instance : Fun Tryz.prog 60 := ⟨by kernel_rfl⟩
instance : Fun Tryz.prog 62 := ⟨by kernel_rfl⟩
instance : Fun Tryz.prog 63 := ⟨by kernel_rfl⟩
instance : Fun Tryz.prog 64 := ⟨by kernel_rfl⟩
instance : Fun Tryz.prog 65 := ⟨by kernel_rfl⟩
instance : Fun Tryz.prog 66 := ⟨by kernel_rfl⟩
instance : Fun Tryz.prog 67 := ⟨by kernel_rfl⟩
instance : Fun Tryz.prog 68 := ⟨by kernel_rfl⟩
instance : Fun Tryz.prog 70 := ⟨by kernel_rfl⟩
instance : Fun Tryz.prog 71 := ⟨by kernel_rfl⟩
instance : Fun Tryz.prog 72 := ⟨by kernel_rfl⟩
instance : Fun Tryz.prog 73 := ⟨by kernel_rfl⟩
instance : Fun Tryz.prog 74 := ⟨by kernel_rfl⟩
instance : Fun Tryz.prog 75 := ⟨by kernel_rfl⟩
instance : Fun Tryz.prog 76 := ⟨by kernel_rfl⟩
instance : Fun Tryz.prog 77 := ⟨by kernel_rfl⟩
instance : Fun Tryz.prog 78 := ⟨by kernel_rfl⟩
instance : Fun Tryz.prog 79 := ⟨by kernel_rfl⟩
instance : Fun Tryz.prog 80 := ⟨by kernel_rfl⟩
instance : Fun Tryz.prog 81 := ⟨by kernel_rfl⟩
instance : Fun Tryz.prog 82 := ⟨by kernel_rfl⟩
instance : Fun Tryz.prog 83 := ⟨by kernel_rfl⟩
instance : Fun Tryz.prog 84 := ⟨by kernel_rfl⟩
instance : Fun Tryz.prog 85 := ⟨by kernel_rfl⟩
instance : Fun Tryz.prog 86 := ⟨by kernel_rfl⟩
instance : Fun Tryz.prog 87 := ⟨by kernel_rfl⟩
instance : Fun Tryz.prog 88 := ⟨by kernel_rfl⟩
instance : Fun Tryz.prog 89 := ⟨by kernel_rfl⟩
instance : Fun Tryz.prog 90 := ⟨by kernel_rfl⟩
instance : Fun Tryz.prog 91 := ⟨by kernel_rfl⟩
instance : Fun Tryz.prog 92 := ⟨by kernel_rfl⟩
instance : Fun Tryz.prog 93 := ⟨by kernel_rfl⟩
instance : Fun Tryz.prog 94 := ⟨by kernel_rfl⟩
instance : Fun Tryz.prog 95 := ⟨by kernel_rfl⟩
instance : Fun Tryz.prog 96 := ⟨by kernel_rfl⟩
instance : Fun Tryz.prog 97 := ⟨by kernel_rfl⟩
instance : Fun Tryz.prog 98 := ⟨by kernel_rfl⟩
instance : Fun Tryz.prog 99 := ⟨by kernel_rfl⟩
instance : Fun Tryz.prog 100 := ⟨by kernel_rfl⟩
instance : Fun Tryz.prog 101 := ⟨by kernel_rfl⟩
instance : Fun Tryz.prog 102 := ⟨by kernel_rfl⟩
instance : Fun Tryz.prog 103 := ⟨by kernel_rfl⟩
instance : Fun Tryz.prog 104 := ⟨by kernel_rfl⟩
instance : Fun Tryz.prog 105 := ⟨by kernel_rfl⟩
instance : Fun Tryz.prog 106 := ⟨by kernel_rfl⟩
instance : Fun Tryz.prog 108 := ⟨by kernel_rfl⟩
instance : Fun Tryz.prog 110 := ⟨by kernel_rfl⟩
instance : Fun Tryz.prog 111 := ⟨by kernel_rfl⟩
instance : Fun Tryz.prog 112 := ⟨by kernel_rfl⟩
instance : Fun Tryz.prog 113 := ⟨by kernel_rfl⟩
instance : Fun Tryz.prog 114 := ⟨by kernel_rfl⟩
instance : Fun Tryz.prog 115 := ⟨by kernel_rfl⟩
instance : Fun Tryz.prog 116 := ⟨by kernel_rfl⟩
instance : Fun Tryz.prog 117 := ⟨by kernel_rfl⟩
instance : Fun Tryz.prog 118 := ⟨by kernel_rfl⟩
instance : Fun Tryz.prog 119 := ⟨by kernel_rfl⟩
instance : Fun Tryz.prog 120 := ⟨by kernel_rfl⟩
instance : Fun Tryz.prog 121 := ⟨by kernel_rfl⟩
instance : Fun Tryz.prog 122 := ⟨by kernel_rfl⟩
instance : Fun Tryz.prog 123 := ⟨by kernel_rfl⟩
instance : Fun Tryz.prog 124 := ⟨by kernel_rfl⟩
instance : Fun Tryz.prog 125 := ⟨by kernel_rfl⟩
instance : Fun Tryz.prog 126 := ⟨by kernel_rfl⟩
instance : Fun Tryz.prog 127 := ⟨by kernel_rfl⟩
instance : Fun Tryz.prog 128 := ⟨by kernel_rfl⟩
instance : Fun Tryz.prog 129 := ⟨by kernel_rfl⟩
instance : Fun Tryz.prog 130 := ⟨by kernel_rfl⟩
instance : Fun Tryz.prog 131 := ⟨by kernel_rfl⟩
instance : Fun Tryz.prog 132 := ⟨by kernel_rfl⟩
instance : Fun Tryz.prog 133 := ⟨by kernel_rfl⟩
instance : Fun Tryz.prog 134 := ⟨by kernel_rfl⟩
instance : Fun Tryz.prog 135 := ⟨by kernel_rfl⟩
instance : Fun Tryz.prog 136 := ⟨by kernel_rfl⟩
instance : Fun Tryz.prog 137 := ⟨by kernel_rfl⟩
instance : Fun Tryz.prog 138 := ⟨by kernel_rfl⟩
instance : Fun Tryz.prog 139 := ⟨by kernel_rfl⟩
instance : Fun Tryz.prog 140 := ⟨by kernel_rfl⟩
instance : Fun Tryz.prog 141 := ⟨by kernel_rfl⟩
instance : Fun Tryz.prog 142 := ⟨by kernel_rfl⟩
instance : Fun Tryz.prog 143 := ⟨by kernel_rfl⟩
instance : Fun Tryz.prog 144 := ⟨by kernel_rfl⟩
instance : Fun Tryz.prog 146 := ⟨by kernel_rfl⟩
instance : Fun Tryz.prog 147 := ⟨by kernel_rfl⟩
instance : Fun Tryz.prog 151 := ⟨by kernel_rfl⟩
instance : Fun Tryz.prog 152 := ⟨by kernel_rfl⟩
instance : Fun Tryz.prog 153 := ⟨by kernel_rfl⟩
instance : Fun Tryz.prog 154 := ⟨by kernel_rfl⟩
instance : Fun Tryz.prog 155 := ⟨by kernel_rfl⟩
instance : Fun Tryz.prog 156 := ⟨by kernel_rfl⟩
instance : Fun Tryz.prog 157 := ⟨by kernel_rfl⟩
instance : Fun Tryz.prog 158 := ⟨by kernel_rfl⟩
instance : Fun Tryz.prog 160 := ⟨by kernel_rfl⟩
instance : Fun Tryz.prog 161 := ⟨by kernel_rfl⟩
instance : Fun Tryz.prog 162 := ⟨by kernel_rfl⟩
instance : Fun Tryz.prog 163 := ⟨by kernel_rfl⟩
instance : Fun Tryz.prog 164 := ⟨by kernel_rfl⟩
instance : Fun Tryz.prog 167 := ⟨by kernel_rfl⟩
instance : Fun Tryz.prog 168 := ⟨by kernel_rfl⟩
instance : Fun Tryz.prog 169 := ⟨by kernel_rfl⟩
instance : Fun Tryz.prog 170 := ⟨by kernel_rfl⟩
instance : Fun Tryz.prog 171 := ⟨by kernel_rfl⟩
instance : Fun Tryz.prog 172 := ⟨by kernel_rfl⟩
instance : Fun Tryz.prog 174 := ⟨by kernel_rfl⟩
instance : Fun Tryz.prog 175 := ⟨by kernel_rfl⟩
instance : Fun Tryz.prog 176 := ⟨by kernel_rfl⟩
instance : Fun Tryz.prog 178 := ⟨by kernel_rfl⟩
instance : Fun Tryz.prog 179 := ⟨by kernel_rfl⟩
instance : Fun Tryz.prog 180 := ⟨by kernel_rfl⟩
instance : Fun Tryz.prog 181 := ⟨by kernel_rfl⟩
instance : Fun Tryz.prog 182 := ⟨by kernel_rfl⟩
instance : Fun Tryz.prog 183 := ⟨by kernel_rfl⟩
instance : Fun Tryz.prog 184 := ⟨by kernel_rfl⟩
instance : Fun Tryz.prog 185 := ⟨by kernel_rfl⟩
instance : Fun Tryz.prog 186 := ⟨by kernel_rfl⟩
instance : Fun Tryz.prog 187 := ⟨by kernel_rfl⟩
instance : Fun Tryz.prog 188 := ⟨by kernel_rfl⟩
instance : Fun Tryz.prog 189 := ⟨by kernel_rfl⟩
instance : Fun Tryz.prog 191 := ⟨by kernel_rfl⟩
instance : Fun Tryz.prog 192 := ⟨by kernel_rfl⟩
instance : Fun Tryz.prog 193 := ⟨by kernel_rfl⟩
instance : Fun Tryz.prog 194 := ⟨by kernel_rfl⟩
instance : Fun Tryz.prog 195 := ⟨by kernel_rfl⟩
instance : Fun Tryz.prog 198 := ⟨by kernel_rfl⟩
instance : Fun Tryz.prog 199 := ⟨by kernel_rfl⟩
instance : Fun Tryz.prog 200 := ⟨by kernel_rfl⟩
instance : Fun Tryz.prog 201 := ⟨by kernel_rfl⟩
instance : Fun Tryz.prog 203 := ⟨by kernel_rfl⟩
instance : Fun Tryz.prog 204 := ⟨by kernel_rfl⟩
instance : Fun Tryz.prog 205 := ⟨by kernel_rfl⟩
instance : Fun Tryz.prog 206 := ⟨by kernel_rfl⟩
instance : Fun Tryz.prog 207 := ⟨by kernel_rfl⟩
instance : Fun Tryz.prog 208 := ⟨by kernel_rfl⟩
instance : Fun Tryz.prog 209 := ⟨by kernel_rfl⟩
instance : Fun Tryz.prog 210 := ⟨by kernel_rfl⟩
instance : Fun Tryz.prog 211 := ⟨by kernel_rfl⟩
instance : Fun Tryz.prog 212 := ⟨by kernel_rfl⟩
instance : Fun Tryz.prog 213 := ⟨by kernel_rfl⟩
instance : Fun Tryz.prog 214 := ⟨by kernel_rfl⟩
instance : Fun Tryz.prog 216 := ⟨by kernel_rfl⟩
instance : Fun Tryz.prog 217 := ⟨by kernel_rfl⟩
instance : Fun Tryz.prog 218 := ⟨by kernel_rfl⟩
instance : Fun Tryz.prog 219 := ⟨by kernel_rfl⟩
instance : Fun Tryz.prog 220 := ⟨by kernel_rfl⟩
instance : Fun Tryz.prog 222 := ⟨by kernel_rfl⟩
instance : Fun Tryz.prog 232 := ⟨by kernel_rfl⟩
instance : Fun Tryz.prog 233 := ⟨by kernel_rfl⟩
instance : Fun Tryz.prog 234 := ⟨by kernel_rfl⟩
instance : Fun Tryz.prog 235 := ⟨by kernel_rfl⟩
instance : Fun Tryz.prog 236 := ⟨by kernel_rfl⟩
instance : Fun Tryz.prog 237 := ⟨by kernel_rfl⟩
instance : Fun Tryz.prog 239 := ⟨by kernel_rfl⟩
instance : Fun Tryz.prog 240 := ⟨by kernel_rfl⟩
instance : Fun Tryz.prog 241 := ⟨by kernel_rfl⟩
instance : Fun Tryz.prog 242 := ⟨by kernel_rfl⟩
instance : Fun Tryz.prog 243 := ⟨by kernel_rfl⟩
instance : Fun Tryz.prog 250 := ⟨by kernel_rfl⟩
instance : Fun Tryz.prog 251 := ⟨by kernel_rfl⟩
instance : Fun Tryz.prog 253 := ⟨by kernel_rfl⟩
instance : Fun Tryz.prog 254 := ⟨by kernel_rfl⟩
instance : Fun Tryz.prog 255 := ⟨by kernel_rfl⟩
instance : Fun Tryz.prog 259 := ⟨by kernel_rfl⟩
instance : Fun Tryz.prog 260 := ⟨by kernel_rfl⟩
instance : Fun Tryz.prog 261 := ⟨by kernel_rfl⟩
instance : Fun Tryz.prog 264 := ⟨by kernel_rfl⟩
end Go.Proofs
namespace Go.Proofs
open Go.SLA
instance : MapZ Tryz.prog 135 348 (.int .i64 0) := ⟨3, by kernel_rfl, by kernel_rfl⟩
instance : MapI Tryz.prog 136 .i64 (.int .i64 0) := ⟨3, 3, by kernel_rfl, by kernel_rfl, by kernel_rfl⟩
instance : MapI Tryz.prog 184 .i64 (.agg [.int .i64 0, .int .i64 0, .int .i64 0, .int .i64 0, .bool false, .int .i64 0, .int .i64 0, .slice none 0 0].toArray) := ⟨3, 151, by kernel_rfl, by kernel_rfl, by kernel_rfl⟩
instance : MapZ Tryz.prog 187 245 (.int .i64 0) := ⟨3, by kernel_rfl, by kernel_rfl⟩
instance : MapI Tryz.prog 196 .i64 (.pointer none) := ⟨3, 211, by kernel_rfl, by kernel_rfl, by kernel_rfl⟩
instance : MapI Tryz.prog 197 .i64 (.int .i64 0) := ⟨26, 3, by kernel_rfl, by kernel_rfl, by kernel_rfl⟩
instance : MapI Tryz.prog 256 .i64 (.pointer none) := ⟨3, 265, by kernel_rfl, by kernel_rfl, by kernel_rfl⟩
instance : MapI Tryz.prog 260 .i64 (.agg [.int .i64 0, .int .i64 0, .int .i64 0, .string ⟨#[]⟩, .string ⟨#[]⟩].toArray) := ⟨3, 299, by kernel_rfl, by kernel_rfl, by kernel_rfl⟩
instance : MapI Tryz.prog 275 .i64 (.pointer none) := ⟨3, 278, by kernel_rfl, by kernel_rfl, by kernel_rfl⟩
instance : MapI Tryz.prog 287 .i64 (.agg [.int .i64 0, .int .i64 0, .int .i64 0, .int .i64 0, .bool false, .int .i64 0, .int .i64 0, .int .i64 0, .int .i64 0, .int .i64 0, .int .i64 0, .nilIface].toArray) := ⟨3, 294, by kernel_rfl, by kernel_rfl, by kernel_rfl⟩
instance : Conc Tryz.prog 336 := ⟨by kernel_rfl⟩
instance : Conc Tryz.prog 339 := ⟨by kernel_rfl⟩
instance : EqT Tryz.prog 245 [.int .i64, .bool, .int .i64, .int .i64] := ⟨by kernel_rfl, by kernel_rfl, by kernel_rfl, by kernel_rfl⟩
instance : EqT Tryz.prog 348 [.int .i64, .int .i64, .int .i64] := ⟨by kernel_rfl, by kernel_rfl, by kernel_rfl, by kernel_rfl⟩
end Go.Proofs
