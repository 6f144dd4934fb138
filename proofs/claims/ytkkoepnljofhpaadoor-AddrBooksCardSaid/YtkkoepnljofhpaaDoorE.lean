/- The operations that write, make memory, or call; slices of a call's own. -/
import Derived.Test.YtkkoepnljofhpaaDoorD
set_option linter.unusedVariables false
set_option linter.unusedSimpArgs false
namespace Go.SLA

variable {prog : Program} {σ : World} {n : Nat} {Q : Exit → Act → World → Prop} {E E' : Env} {P P' R F : HProp} {ops : Array Oper} {rest : List Oper} {Qa : Act → Prop}

/-! ### Facts of a program -/

def funB (prog : Program) (f : FuncId) : Bool := match prog.funcs[f]? with
  | some fn => fn.body.isSome && fn.name != "runtime.NumGoroutine"
  | none => false
class Fun (prog : Program) (f : FuncId) : Prop where
  b : funB prog f = true
theorem Fun.spec (f : FuncId) [h : Fun prog f] : ∃ fn, prog.funcs[f]? = some fn ∧ fn.body.isNone = false ∧ (fn.name == "runtime.NumGoroutine") = false := by
  have := h.b
  unfold funB at this
  split at this
  · rename_i fn hfn
    simp only [Bool.and_eq_true, bne_iff_ne] at this
    exact ⟨fn, hfn, by cases hb : fn.body <;> simp_all, by simpa using this.2⟩
  · cases this
/-- The cells of a type's zero value. -/
class Zer (prog : Program) (t : TypeId) (zs : outParam (List Value)) : Prop where
  b : ((prog.info? t).bind (·.zero)).map (fun z => z.cells.toList) = some zs
theorem Zer.spec (t : TypeId) (zs : List Value) [h : Zer prog t zs] : ∃ i z, prog.info? t = some i ∧ i.zero = some z ∧ z.cells.toList = zs := by
  have := h.b
  cases hi : prog.info? t with
  | none => simp [hi] at this
  | some i =>
    cases hz : i.zero with
    | none => simp [hi, hz] at this
    | some z => simp only [hi, hz, Option.bind_some, Option.map_some, Option.some.injEq] at this; exact ⟨i, z, rfl, hz, this⟩
/-- The bytes of a type's value. -/
class Byt (prog : Program) (t : TypeId) (B : outParam Nat) : Prop where
  b : infB prog t (fun i => Nat.beq i.bytes B) = true
theorem Byt.spec (t : TypeId) (B : Nat) [h : Byt prog t B] : ∃ i, prog.info? t = some i ∧ i.bytes = B := by
  obtain ⟨i, hi, h1⟩ := infB_spec h.b
  exact ⟨i, hi, Nat.eq_of_beq_eq_true h1⟩

/-- A value of one cell. -/
class Sca (v : Value) : Prop where
  c : v.cells = #[v]
  o : v.oneCell' = true
instance {k : IntKind} {m : Int} : Sca (.int k m) := ⟨rfl, rfl⟩
instance {b : Bool} : Sca (.bool b) := ⟨rfl, rfl⟩
instance {s : ByteArray} : Sca (.string s) := ⟨rfl, rfl⟩
instance {p : Option Addr} : Sca (.pointer p) := ⟨rfl, rfl⟩
instance {p : Option Addr} {l c : Nat} : Sca (.slice p l c) := ⟨rfl, rfl⟩
instance {p : Option Nat} : Sca (.map p) := ⟨rfl, rfl⟩
instance {f : Fn} {a c : Array Value} : Sca (.func f a c) := ⟨rfl, rfl⟩
instance : Sca .nilFunc := ⟨rfl, rfl⟩
instance : Sca .nilIface := ⟨rfl, rfl⟩
instance {t : TypeId} {v : Value} : Sca (.iface t v) := ⟨rfl, rfl⟩

/-- A value's cells. -/
class Cel (v : Value) (l : outParam (List Value)) : Prop where
  c : v.cells = l.toArray
instance (priority := 100) {v : Value} [h : Sca v] : Cel v [v] := ⟨h.c⟩
instance (priority := 200) {l : List Value} : Cel (.agg l.toArray) l := ⟨rfl⟩

/-! ### A call -/

theorem Agree.evls {a : Act} (h : Agree n E a) {l : Array Operand} {vs : List Value} (hl : SLA.evl E l.toList = some vs) : l.map a.eval = vs.toArray := by
  rw [← h.evl hl]; exact Array.toList_inj.1 (by rw [Array.toList_map])
theorem run_callFunc (f : FuncId) [Fun prog f] (args : Array Value) (w : World) : (callFunc f args).run prog w = .ok (.enter f args) w := by
  obtain ⟨fn, h1, h2, h3⟩ := Fun.spec (prog := prog) f
  unfold callFunc
  simp only [Sem.run_bind, run_program, Result.andThen_ok, h1, h2, h3, Bool.false_eq_true, if_false, Sem.run_pure]
theorem run_call {o : Oper} {fx : Operand} {args : Array Operand} {tys : Array TypeId} {f : FuncId} {first captured : List Value} [Fun prog f] {vs : List Value} {a : Act} (ha : Agree n E a) (ho : o.op = .call ⟨.value fx, args, tys⟩)
    (hf : ev E fx = some (.func (.func f) first.toArray captured.toArray)) (hv : evl E args.toList = some vs) (w : World) : (execOp a.eval o).run prog w = .ok (.enter f (first ++ vs ++ captured).toArray) w := by
  unfold execOp
  simp only [ho, resolve, Deferred.ofValue, ha.ev hf, ha.evls hv, Sem.run_bind, Sem.run_pure, Result.andThen_ok, invoke, run_callFunc]
  simp
theorem opx_call {d : Nat} {fx : Operand} {args : Array Operand} {tys : Array TypeId} {ty : TypeId} {pos : String} {aft : Array Edge} {g : Option (Nat × Bool)} {f : FuncId} {first captured vs : List Value} {ws : Array Value} {P0 : HProp} {X : Type} {φ : X → Prop} {val : X → Value} {Qo : X → HProp}
    (hs : FSpec prog f ws P0 φ val Qo) (hf : ev E fx = some (.func (.func f) first.toArray captured.toArray)) (hv : evl E args.toList = some vs) (hw : (first ++ vs ++ captured).toArray = ws) (hd : Nat.blt d n = true) [Fun prog f] [hT : Take P P0 R] :
    OpX prog σ n E P ⟨some d, .call ⟨.value fx, args, tys⟩, ty, pos, aft, g⟩ φ (fun x => (d, val x) :: E) (fun x => (sep (Qo x) (R))) := by
  intro a w ha hw' Kn Q' hk
  unfold Oper.wp
  rw [run_call ha rfl hf hv w, Oper.upon_enter, hw]
  rw [hT.eq] at hw'
  refine (hs σ w R hw').mono ?_
  rintro e w'' ⟨x, hx, rfl, hx'⟩
  exact hk x _ _ hx (ha.put (Nat.le_of_ble_eq_true hd) _) hx'
theorem opx_call0 {d : Nat} {args : Array Operand} {tys : Array TypeId} {ty : TypeId} {pos : String} {aft : Array Edge} {g : Option (Nat × Bool)} {f : FuncId} {vs : List Value} {ws : Array Value} {P0 : HProp} {X : Type} {φ : X → Prop} {val : X → Value} {Qo : X → HProp}
    (hs : FSpec prog f ws P0 φ val Qo) (hv : evl E args.toList = some vs) (hw : vs.toArray = ws) (hd : Nat.blt d n = true) [Fun prog f] [hT : Take P P0 R] :
    OpX prog σ n E P ⟨some d, .call ⟨.value (.func f), args, tys⟩, ty, pos, aft, g⟩ φ (fun x => (d, val x) :: E) (fun x => (sep (Qo x) (R))) :=
  opx_call (first := []) (captured := []) hs rfl hv (by simpa using hw) hd
/-- A call that leaves what it finds and answers one value. -/
theorem Q_call {d : Nat} {args : Array Operand} {tys : Array TypeId} {ty : TypeId} {pos : String} {aft : Array Edge} {f : FuncId} {vs : List Value} {ws : Array Value} {P0 : HProp} {X : Type} {φ : X → Prop} {val : X → Value} {Qo : X → HProp} {v : Value}
    (hs : FSpec prog f ws P0 φ val Qo) (hv : evl E args.toList = some vs) (hw : vs.toArray = ws) (hval : ∀ x, φ x → val x = v) (hq : ∀ x, φ x → Ent (Qo x) P0) (hd : Nat.blt d n = true) [Fun prog f] [hT : Take P P0 R]
    (k : QL prog σ n ops rest Qa ((d, v) :: E) P) : QL prog σ n ops (⟨some d, .call ⟨.value (.func f), args, tys⟩, ty, pos, aft, none⟩ :: rest) Qa E P := fun a ha => by
  unfold wpQuiet
  rw [if_pos (show Region.wanted ⟨some d, _, ty, pos, aft, none⟩ (yielded ops a.tmps) = true from rfl)]
  refine ⟨v, fun w hsw => ?_, k _ (ha.put (Nat.le_of_ble_eq_true hd) v)⟩
  unfold Oper.quietAt
  rw [run_call (first := []) (captured := []) ha rfl rfl hv w]
  refine ⟨rfl, ?_⟩
  rw [List.nil_append, List.append_nil, hw]
  have hsw' := hsw
  rw [hT.eq] at hsw'
  refine (hs σ w R hsw').mono ?_
  rintro e w'' ⟨x, hx, rfl, hx'⟩
  refine ⟨by rw [hval x hx], ?_⟩
  show Sat σ w'' P
  rw [hT.eq]
  exact hx'.ent ((hq x hx).frame R)

/-! ### New memory -/

section
variable {d : Nat} {ty : TypeId} {pos : String} {aft : Array Edge} {g : Option (Nat × Bool)} {x y z : Operand} {t t' : TypeId} {k : IntKind} {v u : Value}

theorem opx_alloc {zs : List Value} [Zer prog t zs] (hd : Nat.blt d n = true) :
    OpX prog σ n E P ⟨some d, .alloc t, ty, pos, aft, g⟩ (fun _ : Nat => True) (fun b => (d, .pointer (some (ad b 0))) :: E) (fun b => (sep (cel b zs t) (P))) := by
  refine OpX.of_run rfl hd fun a w ha hs => ?_
  obtain ⟨i, z, h1, h2, h3⟩ := Zer.spec (prog := prog) t zs
  refine ⟨w.heap.size, w.alloc (.cells zs.toArray t), trivial, ?_, hs.alloc _⟩
  simp only [execOp, Instr.alloc, zeroValue, Sem.run_bind, run_typeInfo' h1, Result.andThen_ok, h2, Sem.run_pure, newVar, newRow, run_newObj]
  rw [← h3]
  rfl
theorem opx_box {l : List Value} [hc : Cel v l] (hx : ev E x = some v) (hd : Nat.blt d n = true) :
    OpX prog σ n E P ⟨some d, .box t x, ty, pos, aft, g⟩ (fun _ : Nat => True) (fun b => (d, .pointer (some (ad b 0))) :: E) (fun b => (sep (cel b l t) (P))) := by
  refine OpX.of_run rfl hd fun a w ha hs => ?_
  refine ⟨w.heap.size, w.alloc (.cells l.toArray t), trivial, ?_, hs.alloc _⟩
  simp only [execOp, ha.ev hx, Instr.box, Sem.run_bind, newVar, newRow, run_newObj, Result.andThen_ok, Sem.run_pure, hc.c]
  rfl

/-- The values of a literal's parts. -/
def evp (E : Env) : List (Nat × Operand) → Option (List (Nat × Value))
  | [] => some []
  | (i, x) :: l => match ev E x, evp E l with
    | some v, some vs => some ((i, v) :: vs)
    | _, _ => none
theorem Agree.evp {a : Act} (h : Agree n E a) : ∀ {l : List (Nat × Operand)} {vs : List (Nat × Value)}, evp E l = some vs → l.map (fun (i, x) => (i, a.eval x)) = vs
  | [], vs, hl => by simpa [SLA.evp] using hl
  | (i, x) :: l, vs, hl => by
    simp only [SLA.evp] at hl
    split at hl
    · rename_i v us hv hus
      simp only [Option.some.injEq] at hl
      subst hl
      rw [List.map_cons, h.evp hus]
      dsimp only
      rw [h.ev hv]
    · cases hl

/-- Cells vs laid at o. -/
class Spl (l : List Value) (o : Nat) (vs : List Value) (l' : outParam (List Value)) : Prop where
  eq : l' = l.take o ++ vs ++ l.drop (o + vs.length)
  le : o + vs.length ≤ l.length
instance {l : List Value} : Spl l 0 [] l := ⟨by simp, by simp⟩
instance {l l' vs : List Value} {x v : Value} [h : Spl l 0 vs l'] : Spl (x :: l) 0 (v :: vs) (v :: l') := ⟨by
  have := h.eq; simp only [List.take_zero, List.nil_append, Nat.zero_add] at this; simp [this], by have := h.le; simp; omega⟩
instance {l l' vs : List Value} {x : Value} {o : Nat} [h : Spl l o vs l'] : Spl (x :: l) (o + 1) vs (x :: l') := ⟨by
  have := h.eq; rw [show o + 1 + vs.length = (o + vs.length) + 1 by omega]; simp [this], by have := h.le; simp; omega⟩

theorem foldl_lay (vs : List Value) : ∀ (o j : Nat) (l : List Value), o + j + vs.length ≤ l.length →
    (vs.zipIdx j).foldl (fun (cs : Array Value) (c : Value × Nat) => cs.setIfInBounds (o + c.2) c.1) l.toArray = (l.take (o + j) ++ vs ++ l.drop (o + j + vs.length)).toArray := by
  induction vs with
  | nil => intro o j l h; simp
  | cons v vs ih =>
    intro o j l h
    simp only [List.length_cons] at h
    rw [List.zipIdx_cons, List.foldl_cons]
    have e : l.toArray.setIfInBounds (o + j) v = (l.set (o + j) v).toArray := by simp
    dsimp only
    rw [e, ih o (j + 1) _ (by simp; omega)]
    congr 1
    rw [show o + (j + 1) = o + j + 1 by omega, List.length_cons, show o + j + 1 + vs.length = o + j + (vs.length + 1) by omega]
    have h1 : (l.set (o + j) v).take (o + j + 1) = l.take (o + j) ++ [v] := by
      rw [List.take_succ_eq_append_getElem (by simp; omega), List.take_set_of_le (Nat.le_refl _)]
      simp
    have h2 : (l.set (o + j) v).drop (o + j + (vs.length + 1)) = l.drop (o + j + (vs.length + 1)) := List.drop_set_of_lt (by omega)
    rw [h1, h2]
    simp
theorem foldl_zip (vs : List Value) (f : Array Value → Value × Nat → Array Value) (z : Array Value) : vs.toArray.zipIdx.foldl f z = (vs.zipIdx 0).foldl f z := by
  rw [← Array.foldl_toList, Array.toList_zipIdx]
theorem fill_cons {place : Nat → Option (Nat × Nat)} {l : List Value} {i : Nat} {v : Value} {ps : List (Nat × Value)} {o m : Nat} {vs : List Value} (hp : place i = some (o, m)) (hc : v.cells = vs.toArray) (hl : vs.length = m) (hle : o + m ≤ l.length) :
    Instr.fill place l.toArray ((i, v) :: ps) = Instr.fill place (l.take o ++ vs ++ l.drop (o + m)).toArray ps := by
  subst hl
  have h2 := foldl_lay vs o 0 l (by simpa using hle)
  simp only [Nat.add_zero] at h2
  have h3 : ¬ (o + vs.length > l.length) := by omega
  rw [Instr.fill]
  simp only [hp, hc, List.size_toArray]
  have hb : (vs.length != vs.length || decide (o + vs.length > l.length)) = false := by simp [h3]
  split
  · rename_i hh
    exfalso
    simp at hh
    omega
  · rw [foldl_zip, h2]
/-- The parts of a literal laid into its zero cells: place i is at (pl i). -/
class Fil (pl : List (Nat × Nat)) (l : List Value) (ps : List (Nat × Value)) (l' : outParam (List Value)) : Prop where
  eq : Instr.fill (fun i => pl[i]?) l.toArray ps = some l'.toArray
instance {pl : List (Nat × Nat)} {l : List Value} : Fil pl l [] l := ⟨rfl⟩
/-- The place i of a list of places. -/
class Plc (pl : List (Nat × Nat)) (i : Nat) (o m : outParam Nat) : Prop where
  eq : pl[i]? = some (o, m)
instance {pl : List (Nat × Nat)} {o m : Nat} : Plc ((o, m) :: pl) 0 o m := ⟨rfl⟩
instance {pl : List (Nat × Nat)} {i o m : Nat} {x : Nat × Nat} [h : Plc pl i o m] : Plc (x :: pl) (i + 1) o m := ⟨h.eq⟩
class Len (l : List Value) (m : Nat) : Prop where
  eq : l.length = m
instance : Len [] 0 := ⟨rfl⟩
instance {l : List Value} {x : Value} {m : Nat} [h : Len l m] : Len (x :: l) (m + 1) := ⟨by simp [h.eq]⟩
instance {pl : List (Nat × Nat)} {l l1 l' vs : List Value} {i o m : Nat} {v : Value} {ps : List (Nat × Value)} [hp : Plc pl i o m] [hc : Cel v vs] [hl : Len vs m] [hs : Spl l o vs l1] [hf : Fil pl l1 ps l'] : Fil pl l ((i, v) :: ps) l' := ⟨by
  have h1 := hs.le
  have h2 := hl.eq
  rw [fill_cons hp.eq hc.c h2 (by omega), ← hf.eq, hs.eq, h2]⟩

/-- A struct's fields: where each stands, and its cells. -/
class Pls (prog : Program) (t : TypeId) (pl : outParam (List (Nat × Nat))) : Prop where
  b : undB prog t (fun | .struct fs => (fs.toList.map fun f => (f.offset, (prog.info? f.type).map (·.size))) == pl.map fun (o, m) => (o, some m) | _ => false) = true
theorem run_places (w : World) : ∀ (fs : List Field) (pl : List (Nat × Nat)), (fs.map fun f => (f.offset, (prog.info? f.type).map (·.size))) = (pl.map fun (o, m) => (o, some m)) →
    (fs.mapM (m := Sem) fun f => do pure (f.offset, ← sizeOf f.type)).run prog w = .ok pl w
  | [], [], _ => rfl
  | [], _ :: _, h => by simp at h
  | _ :: _, [], h => by simp at h
  | f :: fs, (o, m) :: pl, h => by
    simp only [List.map_cons, List.cons.injEq, Prod.mk.injEq] at h
    obtain ⟨⟨h1, h2⟩, h3⟩ := h
    cases hi : prog.info? f.type with
    | none => simp [hi] at h2
    | some i =>
      simp only [hi, Option.map_some, Option.some.injEq] at h2
      simp only [List.mapM_cons, Sem.run_bind, run_sizeOf' hi, Result.andThen_ok, Sem.run_pure, run_places w fs pl h3, h1, h2]
theorem opv_build {d : Option Tmp} {zs l : List Value} {pl : List (Nat × Nat)} {parts : Array (Nat × Operand)} {ps : List (Nat × Value)} [Zer prog t zs] [hp : Pls prog t pl] (he : evp E parts.toList = some ps) [hf : Fil pl zs ps l] :
    OpV prog σ n E P ⟨d, .build t parts, ty, pos, aft, g⟩ (.agg l.toArray) := fun a w ha _ => by
  obtain ⟨i, z, h1, h2, h3⟩ := Zer.spec (prog := prog) t zs
  obtain ⟨dd, hd, hb⟩ := undB_spec hp.b
  split at hb
  · rename_i fs
    have hb := eq_of_beq hb
    have hm : (fs.mapM (m := Sem) fun f => do pure (f.offset, ← sizeOf f.type)).run prog w = .ok pl.toArray w := by
      rw [Array.mapM_eq_mapM_toList, Sem.run_map, run_places w _ _ hb]
      rfl
    have hps : (parts.map fun x => (x.1, a.eval x.2)) = ps.toArray := by rw [← ha.evp he]; exact Array.toList_inj.1 (by rw [Array.toList_map])
    have hz : z.cells = zs.toArray := by rw [← h3]
    have hfl : (fun i : Nat => pl.toArray[i]?) = fun i : Nat => pl[i]? := by funext i; simp
    simp only [execOp, Instr.build, zeroValue, Sem.run_bind, run_typeInfo' h1, Result.andThen_ok, h2, Sem.run_pure, run_und' hd, hm, hps, hz, hfl]
    rw [hf.eq]
    rfl
  · cases hb

/-- A literal of a slice of elements of one cell, all of them given. -/
def nums : Nat → List Value → List (Nat × Value)
  | _, [] => []
  | i, v :: l => (i, v) :: nums (i + 1) l
theorem fill_ones : ∀ (vs : List Value) (k : Nat) (l : List Value), (∀ v ∈ vs, v.cells = #[v]) → k + vs.length ≤ l.length →
    Instr.fill (fun i => some (i * 1, 1)) l.toArray (nums k vs) = some (l.take k ++ vs ++ l.drop (k + vs.length)).toArray
  | [], k, l, _, _ => by simp [nums, Instr.fill]
  | v :: vs, k, l, h, hk => by
    simp only [List.length_cons] at hk
    have hv := h v (by simp)
    rw [nums, fill_cons (o := k) (m := 1) (vs := [v]) (by simp) hv rfl (by omega)]
    rw [fill_ones vs (k + 1) _ (fun u hu => h u (by simp [hu])) (by simp; omega)]
    congr 2
    have t1 : (l.take k ++ [v] ++ l.drop (k + 1)).take (k + 1) = l.take k ++ [v] := by
      rw [List.take_left' (by simp; omega)]
    have t2 : (l.take k ++ [v] ++ l.drop (k + 1)).drop (k + 1 + vs.length) = l.drop (k + (vs.length + 1)) := by
      rw [← List.drop_drop, List.drop_left' (by simp; omega), List.drop_drop]
      congr 1
      omega
    rw [t1, t2, List.length_cons]
    simp
theorem opx_buildSliceS {e len : Nat} {zs : List Value} {parts : Array (Nat × Operand)} {vs : List Value} [Slc prog t e 1] [Zer prog e zs] (he : evp E parts.toList = some (nums 0 vs)) (hl : vs.length = len) (hlen : len ≤ 16777216) (h1 : ∀ v ∈ vs, v.cells = #[v]) (hd : Nat.blt d n = true) :
    OpX prog σ n E P ⟨some d, .buildSlice t len parts, ty, pos, aft, g⟩ (fun _ : Nat => True) (fun b => (d, .slice (some (ad b 0)) len len) :: E) (fun b => (sep (cel b vs e) (P))) := by
  refine OpX.of_run rfl hd fun a w ha hs => ?_
  obtain ⟨hu, i, hi, hsz⟩ := Slc.spec (prog := prog) t e 1
  obtain ⟨i', z, h1', h2, h3⟩ := Zer.spec (prog := prog) e zs
  refine ⟨w.heap.size, w.alloc (.cells vs.toArray e), trivial, ?_, hs.alloc _⟩
  have hps : (parts.map fun x => (x.1, a.eval x.2)) = (nums 0 vs).toArray := by rw [← ha.evp he]; exact Array.toList_inj.1 (by rw [Array.toList_map])
  have hf : ∀ zc : Array Value, Instr.fill (fun i => some (i * 1, 1)) ((Array.range (len * 1)).map (zc[· % zc.size]!)) (nums 0 vs) = some vs.toArray := fun zc => by
    have := fill_ones vs 0 ((Array.range (len * 1)).map (zc[· % zc.size]!)).toList h1 (by simp [hl])
    rw [Array.toArray_toList] at this
    rw [this]
    simp [hl]
  have hsz' : (sizeOf e).run prog w = .ok 1 w := by rw [run_sizeOf' hi, hsz]
  have hle : ¬ (len * 1 > 2 ^ 24) := by omega
  simp only [execOp, Instr.buildSlice, Sem.run_bind, run_und' hu, Result.andThen_ok, hsz', hle, if_false, Sem.run_ite, Sem.run_pure, hps]
  by_cases h0 : len * 1 = 0
  · simp only [h0, if_true, Result.andThen_ok]
    have := hf #[]
    rw [h0] at this
    rw [this]
    simp only [Sem.run_bind, newRow, run_newObj, Result.andThen_ok, Sem.run_pure]
    rfl
  · simp only [h0, if_false, Sem.run_bind, zeroValue, run_typeInfo' h1', Result.andThen_ok, h2, Sem.run_pure, hf, newRow, run_newObj]
    rfl
/-- A literal of a slice of one element, of any number of cells. -/
theorem opx_buildSlice1 {e m : Nat} {zs : List Value} {l : List Value} [Slc prog t e m] [Zer prog e zs] (hx : ev E x = some v) [hc : Cel v l] (hl : l.length = m) (hm : m ≤ 16777216) (h0 : m ≠ 0) (hd : Nat.blt d n = true) :
    OpX prog σ n E P ⟨some d, .buildSlice t 1 #[(0, x)], ty, pos, aft, g⟩ (fun _ : Nat => True) (fun b => (d, .slice (some (ad b 0)) 1 1) :: E) (fun b => (sep (cel b l e) (P))) := by
  refine OpX.of_run rfl hd fun a w ha hs => ?_
  obtain ⟨hu, i, hi, hsz⟩ := Slc.spec (prog := prog) t e m
  obtain ⟨i', z, h1', h2, h3⟩ := Zer.spec (prog := prog) e zs
  refine ⟨w.heap.size, w.alloc (.cells l.toArray e), trivial, ?_, hs.alloc _⟩
  have hf : ∀ zc : Array Value, Instr.fill (fun i => some (i * m, m)) ((Array.range (1 * m)).map (zc[· % zc.size]!)) [(0, v)] = some l.toArray := fun zc => by
    have := fill_cons (place := fun i => some (i * m, m)) (l := ((Array.range (1 * m)).map (zc[· % zc.size]!)).toList) (i := 0) (v := v) (ps := []) (o := 0) (m := m) (vs := l) (by simp) hc.c hl (by simp)
    rw [Array.toArray_toList] at this
    rw [this, Instr.fill]
    simp
  have hsz' : (sizeOf e).run prog w = .ok m w := by rw [run_sizeOf' hi, hsz]
  have hle : ¬ (1 * m > 2 ^ 24) := by omega
  have h0' : ¬ (1 * m = 0) := by omega
  simp only [execOp, Instr.buildSlice, Sem.run_bind, run_und' hu, Result.andThen_ok, hsz', hle, if_false, Sem.run_ite, Sem.run_pure, h0', zeroValue, run_typeInfo' h1', h2, List.map_toArray, List.map_cons, List.map_nil, ha.ev hx]
  rw [hf]
  simp only [Sem.run_bind, newRow, run_newObj, Result.andThen_ok, Sem.run_pure]
  rfl

/-! ### Stores -/

class Siz (prog : Program) (t : TypeId) (m : outParam Nat) : Prop where
  b : infB prog t (fun i => Nat.beq i.size m) = true
theorem Siz.spec (t : TypeId) (m : Nat) [h : Siz prog t m] : ∃ i, prog.info? t = some i ∧ i.size = m := by
  obtain ⟨i, hi, h1⟩ := infB_spec h.b
  exact ⟨i, hi, Nat.eq_of_beq_eq_true h1⟩
theorem setRow_sat {w : World} {b : Nat} {l l' : List Value} {t : TypeId} (h : Sat σ w (sep (cel b l t) (R))) : Sat σ (w.setRow b l'.toArray) (sep (cel b l' t) (R)) :=
  h.update (w' := w.setRow b l'.toArray) rfl rfl rfl (setRow_heap w b _ _ t _ h.blk) (fun k hk => setRow_other w b k _ hk)
theorem run_storeN {t : TypeId} {m b o : Nat} {l vs : List Value} {te : TypeId} {w : World} {v : Value} [Siz prog t m] (hs : Sat σ w (sep (cel b l te) (R))) (hc : v.cells = vs.toArray) (hl : vs.length = m) (h1 : ∀ u ∈ vs, u.oneCell' = true) (hle : o + vs.length ≤ l.length) :
    (storeVar t (ad b o) v).run prog w = .ok () (w.setRow b (l.take o ++ vs ++ l.drop (o + vs.length)).toArray) := by
  obtain ⟨i, hi, h2⟩ := Siz.spec (prog := prog) t m
  unfold storeVar
  simp only [Sem.run_bind, run_sizeOf' hi, Result.andThen_ok, hc, List.size_toArray, hl, h2, ne_eq, not_true_eq_false, if_false, Sem.run_pure, Sem.run_ite]
  have := run_storeCells_at prog b o te vs 0 l.toArray w hs.blk (by simpa using hle) h1
  rw [hl] at this
  simpa [ad] using this
theorem opx_store {m b o : Nat} {l l' vs : List Value} {te : TypeId} [Siz prog t m] (hx : ev E x = some (.pointer (some (ad b o)))) (hy : ev E y = some v) [hc : Cel v vs] (hl : vs.length = m) (h1 : ∀ u ∈ vs, u.oneCell' = true) [hk : Look P b l te R] [hs : Spl l o vs l'] :
    OpX prog σ n E P ⟨none, .store t x y, ty, pos, aft, g⟩ (fun _ : Unit => True) (fun _ => E) (fun _ => (sep (cel b l' te) (R))) := by
  refine OpX.of_skip rfl fun a w ha hw => ?_
  rw [hk.eq] at hw
  refine ⟨(), _, trivial, ?_, setRow_sat (l' := l') hw⟩
  have := run_storeN (prog := prog) (t := t) (m := m) hw hc.c hl h1 hs.le
  simp only [execOp, ha.ev hx, ha.ev hy, Instr.storeAt, Instr.sureAddr, Sem.run_bind, Sem.run_pure, Result.andThen_ok, this, hs.eq]
/-- A store at a place that is no numeral. -/
theorem opx_storeAt {m b o : Nat} {l l' vs : List Value} {te : TypeId} [Siz prog t m] (hx : ev E x = some (.pointer (some (ad b o)))) (hy : ev E y = some v) [hc : Cel v vs] (hl : vs.length = m) (h1 : ∀ u ∈ vs, u.oneCell' = true) [hk : Look P b l te R]
    (hle : o + vs.length ≤ l.length) (hl' : l' = l.take o ++ vs ++ l.drop (o + vs.length)) :
    OpX prog σ n E P ⟨none, .store t x y, ty, pos, aft, g⟩ (fun _ : Unit => True) (fun _ => E) (fun _ => (sep (cel b l' te) (R))) := by
  refine OpX.of_skip rfl fun a w ha hw => ?_
  rw [hk.eq] at hw
  refine ⟨(), _, trivial, ?_, setRow_sat (l' := l') hw⟩
  have := run_storeN (prog := prog) (t := t) (m := m) hw hc.c hl h1 hle
  simp only [execOp, ha.ev hx, ha.ev hy, Instr.storeAt, Instr.sureAddr, Sem.run_bind, Sem.run_pure, Result.andThen_ok, this, hl']
end

end Go.SLA
