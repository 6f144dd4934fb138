/- What one operation yields: the operations that write nothing. -/
import Derived.Test.YtkkoepnljofhpaaDoorB
set_option linter.unusedVariables false
set_option linter.unusedSimpArgs false
namespace Go.SLA

/-! ### Facts of a program, each closed by the kernel -/

def undB (prog : Program) (t : TypeId) (f : TypeDesc → Bool) : Bool := match prog.underlying t with | some d => f d | none => false
def infB (prog : Program) (t : TypeId) (f : TypeInfo → Bool) : Bool := match prog.info? t with | some d => f d | none => false
theorem undB_spec {prog : Program} {t : TypeId} {f : TypeDesc → Bool} (h : undB prog t f = true) : ∃ d, prog.underlying t = some d ∧ f d = true := by
  unfold undB at h; split at h
  · exact ⟨_, by assumption, h⟩
  · cases h
theorem infB_spec {prog : Program} {t : TypeId} {f : TypeInfo → Bool} (h : infB prog t f = true) : ∃ d, prog.info? t = some d ∧ f d = true := by
  unfold infB at h; split at h
  · exact ⟨_, by assumption, h⟩
  · cases h
def isAggD : TypeDesc → Bool | .struct _ | .array _ _ => true | _ => false
/-- A type of one cell, neither a struct nor an array. -/
class One (prog : Program) (t : TypeId) : Prop where
  b : (undB prog t (fun d => !isAggD d) && infB prog t (fun i => Nat.beq i.size 1)) = true
/-- A struct or an array of m cells. -/
class Agg (prog : Program) (t : TypeId) (m : outParam Nat) : Prop where
  b : (undB prog t isAggD && infB prog t (fun i => Nat.beq i.size m)) = true
/-- Field f of the struct t stands at off, and is a type of m cells. -/
def fldB (prog : Program) (t : TypeId) (f off m : Nat) : Bool := undB prog t fun
  | .struct fs => match fs[f]? with
    | some fl => Nat.beq fl.offset off && infB prog fl.type (fun i => Nat.beq i.size m && Nat.blt 0 i.size)
    | none => false
  | _ => false
class Fld (prog : Program) (t : TypeId) (f : Nat) (off m : outParam Nat) : Prop where
  b : fldB prog t f off m = true
/-- A slice type, its element type and the element's cells. -/
def slcB (prog : Program) (t e m : Nat) : Bool := undB prog t (fun | .slice e' => Nat.beq e' e | _ => false) && infB prog e (fun i => Nat.beq i.size m)
class Slc (prog : Program) (t : TypeId) (e m : outParam Nat) : Prop where
  b : slcB prog t e m = true
def arrB (prog : Program) (t k e m : Nat) : Bool := undB prog t (fun | .array k' e' => Nat.beq e' e && Nat.beq k' k | _ => false) && infB prog e (fun i => Nat.beq i.size m)
class Arr (prog : Program) (t : TypeId) (k e m : outParam Nat) : Prop where
  b : arrB prog t k e m = true
class Str (prog : Program) (t : TypeId) : Prop where
  b : undB prog t (fun | .string => true | _ => false) = true
class IntT (prog : Program) (t : TypeId) (k : outParam IntKind) : Prop where
  b : undB prog t (fun | .int k' => decide (k' = k) | _ => false) = true
class PtrT (prog : Program) (t : TypeId) : Prop where
  b : undB prog t (fun | .pointer _ => true | _ => false) = true

variable {prog : Program} {σ : World} {n : Nat} {Q : Exit → Act → World → Prop} {E E' : Env} {P P' R F : HProp} {ops : Array Oper} {rest : List Oper}

theorem One.spec (t : TypeId) [h : One prog t] : ∃ d i, prog.underlying t = some d ∧ isAggD d = false ∧ prog.info? t = some i ∧ i.size = 1 := by
  have := h.b
  simp only [Bool.and_eq_true] at this
  obtain ⟨d, hd, h1⟩ := undB_spec this.1
  obtain ⟨i, hi, h2⟩ := infB_spec this.2
  exact ⟨d, i, hd, by simpa using h1, hi, Nat.eq_of_beq_eq_true h2⟩
theorem Agg.spec (t m : Nat) [h : Agg prog t m] : ∃ d i, prog.underlying t = some d ∧ isAggD d = true ∧ prog.info? t = some i ∧ i.size = m := by
  have := h.b
  simp only [Bool.and_eq_true] at this
  obtain ⟨d, hd, h1⟩ := undB_spec this.1
  obtain ⟨i, hi, h2⟩ := infB_spec this.2
  exact ⟨d, i, hd, h1, hi, Nat.eq_of_beq_eq_true h2⟩
theorem Fld.spec (t f off m : Nat) [h : Fld prog t f off m] : ∃ fs fl i, prog.underlying t = some (.struct fs) ∧ fs[f]? = some fl ∧ fl.offset = off ∧ prog.info? fl.type = some i ∧ i.size = m ∧ 0 < i.size := by
  obtain ⟨d, hd, h1⟩ := undB_spec h.b
  split at h1
  · split at h1
    · rename_i fs _ fl hfl
      simp only [Bool.and_eq_true] at h1
      obtain ⟨i, hi, h2⟩ := infB_spec h1.2
      simp only [Bool.and_eq_true] at h2
      exact ⟨fs, fl, i, hd, hfl, Nat.eq_of_beq_eq_true h1.1, hi, Nat.eq_of_beq_eq_true h2.1, Nat.le_of_ble_eq_true h2.2⟩
    · cases h1
  · cases h1
theorem Slc.spec (t e m : Nat) [h : Slc prog t e m] : prog.underlying t = some (.slice e) ∧ ∃ i, prog.info? e = some i ∧ i.size = m := by
  have := h.b
  unfold slcB at this
  simp only [Bool.and_eq_true] at this
  obtain ⟨d, hd, h1⟩ := undB_spec this.1
  obtain ⟨i, hi, h2⟩ := infB_spec this.2
  refine ⟨?_, i, hi, Nat.eq_of_beq_eq_true h2⟩
  split at h1
  · rw [hd, Nat.eq_of_beq_eq_true h1]
  · cases h1
theorem Arr.spec (t k e m : Nat) [h : Arr prog t k e m] : prog.underlying t = some (.array k e) ∧ ∃ i, prog.info? e = some i ∧ i.size = m := by
  have := h.b
  unfold arrB at this
  simp only [Bool.and_eq_true] at this
  obtain ⟨d, hd, h1⟩ := undB_spec this.1
  obtain ⟨i, hi, h2⟩ := infB_spec this.2
  refine ⟨?_, i, hi, Nat.eq_of_beq_eq_true h2⟩
  split at h1
  · simp only [Bool.and_eq_true] at h1
    rw [hd, Nat.eq_of_beq_eq_true h1.1, Nat.eq_of_beq_eq_true h1.2]
  · cases h1
theorem Str.spec (t : TypeId) [h : Str prog t] : prog.underlying t = some .string := by
  obtain ⟨d, hd, h1⟩ := undB_spec h.b
  split at h1
  · exact hd
  · cases h1
theorem IntT.spec (t : TypeId) (k : IntKind) [h : IntT prog t k] : prog.underlying t = some (.int k) := by
  obtain ⟨d, hd, h1⟩ := undB_spec h.b
  split at h1
  · rw [hd, of_decide_eq_true h1]
  · cases h1
theorem PtrT.spec (t : TypeId) [h : PtrT prog t] : ∃ e, prog.underlying t = some (.pointer e) := by
  obtain ⟨d, hd, h1⟩ := undB_spec h.b
  split at h1
  · exact ⟨_, hd⟩
  · cases h1

theorem run_typeInfo' {t : TypeId} {i : TypeInfo} {w : World} (h : prog.info? t = some i) : (typeInfo t).run prog w = .ok i w := by
  simp [typeInfo, h]
theorem run_sizeOf' {t : TypeId} {i : TypeInfo} {w : World} (h : prog.info? t = some i) : (sizeOf t).run prog w = .ok i.size w := by
  simp [sizeOf, run_typeInfo' h]
theorem run_und' {t : TypeId} {d : TypeDesc} {w : World} (h : prog.underlying t = some d) : (underlying t).run prog w = .ok d w := by
  simp [underlying, h]
theorem run_isAgg' {t : TypeId} {d : TypeDesc} {w : World} (h : prog.underlying t = some d) : (isAgg t).run prog w = .ok (isAggD d) w := by
  unfold isAgg
  rw [Sem.run_bind, run_und' h, Result.andThen_ok]
  unfold isAggD
  cases d <;> rfl

/-! ### Addresses in one form -/

/-- Cell o of block b. -/
@[reducible] def ad (b o : Nat) : Addr := ⟨b, o, none⟩
theorem ad_add (b o k : Nat) : (ad b o).add k = ad b (o + k) := by
  unfold Addr.add ad
  split
  · subst_vars; rfl
  · rfl

/-! ### What an operation yields without a trace -/

section
variable (prog) (σ) (n)
def OpV (E : Env) (P : HProp) (o : Oper) (v : Value) : Prop := ∀ a w, Agree n E a → Sat σ w P → (execOp a.eval o).run prog w = .ok (.value v) w
end

section
variable {d : Option Tmp} {ty : TypeId} {pos : String} {aft : Array Edge} {g : Option (Nat × Bool)} {x y z : Operand} {t t' : TypeId} {k : IntKind} {a b : Int} {v u : Value} {s r : ByteArray}

theorem opv_move (hx : ev E x = some v) : OpV prog σ n E P ⟨d, .move x, ty, pos, aft, g⟩ v := fun _ _ ha _ => by simp [execOp, ha.ev hx]
theorem opv_assign (hx : ev E x = some v) : OpV prog σ n E P ⟨d, .assign x, ty, pos, aft, g⟩ v := fun _ _ ha _ => by simp [execOp, ha.ev hx]
theorem opv_pick {c : Bool} (hx : ev E x = some (.bool c)) (hy : ev E y = some v) (hz : ev E z = some u) : OpV prog σ n E P ⟨d, .pick x y z, ty, pos, aft, g⟩ (if c then v else u) :=
  fun _ _ ha _ => by simp only [execOp, ha.ev hx, ha.ev hy, ha.ev hz]; cases c <;> simp [asBool]
theorem opv_pick_t {p : Prop} [Decidable p] (hx : ev E x = some (.bool (decide p))) (hp : p) (hy : ev E y = some v) : OpV prog σ n E P ⟨d, .pick x y z, ty, pos, aft, g⟩ v :=
  fun _ _ ha _ => by simp [execOp, ha.ev hx, ha.ev hy, asBool, hp]
theorem opv_pick_f {p : Prop} [Decidable p] (hx : ev E x = some (.bool (decide p))) (hp : ¬ p) (hz : ev E z = some v) : OpV prog σ n E P ⟨d, .pick x y z, ty, pos, aft, g⟩ v :=
  fun _ _ ha _ => by simp [execOp, ha.ev hx, ha.ev hz, asBool, hp]
theorem opv_pick_tt (hx : ev E x = some (.bool true)) (hy : ev E y = some v) : OpV prog σ n E P ⟨d, .pick x y z, ty, pos, aft, g⟩ v :=
  fun _ _ ha _ => by simp [execOp, ha.ev hx, ha.ev hy, asBool]
theorem opv_pick_ff (hx : ev E x = some (.bool false)) (hz : ev E z = some v) : OpV prog σ n E P ⟨d, .pick x y z, ty, pos, aft, g⟩ v :=
  fun _ _ ha _ => by simp [execOp, ha.ev hx, ha.ev hz, asBool]

theorem opv_add (hx : ev E x = some (.int k a)) (hy : ev E y = some (.int k b)) : OpV prog σ n E P ⟨d, .binOp .add t x y t', ty, pos, aft, g⟩ (.int k (k.wrap (a + b))) :=
  fun _ _ ha _ => by simp [execOp, ha.ev hx, ha.ev hy, eqGuard, binOp, Op.intArith]
theorem opv_sub (hx : ev E x = some (.int k a)) (hy : ev E y = some (.int k b)) : OpV prog σ n E P ⟨d, .binOp .sub t x y t', ty, pos, aft, g⟩ (.int k (k.wrap (a - b))) :=
  fun _ _ ha _ => by simp [execOp, ha.ev hx, ha.ev hy, eqGuard, binOp, Op.intArith]
theorem opv_mul (hx : ev E x = some (.int k a)) (hy : ev E y = some (.int k b)) : OpV prog σ n E P ⟨d, .binOp .mul t x y t', ty, pos, aft, g⟩ (.int k (k.wrap (a * b))) :=
  fun _ _ ha _ => by simp [execOp, ha.ev hx, ha.ev hy, eqGuard, binOp, Op.intArith]
theorem wrap_i64 {m : Int} (h : -9223372036854775808 ≤ m ∧ m ≤ 9223372036854775807) : IntKind.i64.wrap m = m := Go.IntWalk.i64_in m h
theorem opv_add64 (hx : ev E x = some (.int .i64 a)) (hy : ev E y = some (.int .i64 b)) (h : -9223372036854775808 ≤ a + b ∧ a + b ≤ 9223372036854775807) : OpV prog σ n E P ⟨d, .binOp .add t x y t', ty, pos, aft, g⟩ (.int .i64 (a + b)) := by
  have := opv_add (prog := prog) (σ := σ) (n := n) (P := P) (d := d) (ty := ty) (pos := pos) (aft := aft) (g := g) (t := t) (t' := t') hx hy
  rwa [wrap_i64 h] at this
theorem opv_sub64 (hx : ev E x = some (.int .i64 a)) (hy : ev E y = some (.int .i64 b)) (h : -9223372036854775808 ≤ a - b ∧ a - b ≤ 9223372036854775807) : OpV prog σ n E P ⟨d, .binOp .sub t x y t', ty, pos, aft, g⟩ (.int .i64 (a - b)) := by
  have := opv_sub (prog := prog) (σ := σ) (n := n) (P := P) (d := d) (ty := ty) (pos := pos) (aft := aft) (g := g) (t := t) (t' := t') hx hy
  rwa [wrap_i64 h] at this
theorem opv_mul64 (hx : ev E x = some (.int .i64 a)) (hy : ev E y = some (.int .i64 b)) (h : -9223372036854775808 ≤ a * b ∧ a * b ≤ 9223372036854775807) : OpV prog σ n E P ⟨d, .binOp .mul t x y t', ty, pos, aft, g⟩ (.int .i64 (a * b)) := by
  have := opv_mul (prog := prog) (σ := σ) (n := n) (P := P) (d := d) (ty := ty) (pos := pos) (aft := aft) (g := g) (t := t) (t' := t') hx hy
  rwa [wrap_i64 h] at this
theorem opv_quo (hx : ev E x = some (.int k a)) (hy : ev E y = some (.int k b)) (h : b ≠ 0) : OpV prog σ n E P ⟨d, .binOp .quo t x y t', ty, pos, aft, g⟩ (.int k (k.wrap (a.tdiv b))) :=
  fun _ _ ha _ => by simp [execOp, ha.ev hx, ha.ev hy, eqGuard, binOp, Op.intDiv, h]
theorem opv_rem (hx : ev E x = some (.int k a)) (hy : ev E y = some (.int k b)) (h : b ≠ 0) : OpV prog σ n E P ⟨d, .binOp .rem t x y t', ty, pos, aft, g⟩ (.int k (a.tmod b)) :=
  fun _ _ ha _ => by simp [execOp, ha.ev hx, ha.ev hy, eqGuard, binOp, Op.intDiv, h]
theorem opv_and (hx : ev E x = some (.int k a)) (hy : ev E y = some (.int k b)) : OpV prog σ n E P ⟨d, .binOp .and t x y t', ty, pos, aft, g⟩ (.int k (k.wrap (BitVec.ofInt k.bits a &&& BitVec.ofInt k.bits b).toNat)) :=
  fun _ _ ha _ => by simp [execOp, ha.ev hx, ha.ev hy, eqGuard, binOp, Op.intBits]
theorem opv_or (hx : ev E x = some (.int k a)) (hy : ev E y = some (.int k b)) : OpV prog σ n E P ⟨d, .binOp .or t x y t', ty, pos, aft, g⟩ (.int k (k.wrap (BitVec.ofInt k.bits a ||| BitVec.ofInt k.bits b).toNat)) :=
  fun _ _ ha _ => by simp [execOp, ha.ev hx, ha.ev hy, eqGuard, binOp, Op.intBits]
theorem opv_xor (hx : ev E x = some (.int k a)) (hy : ev E y = some (.int k b)) : OpV prog σ n E P ⟨d, .binOp .xor t x y t', ty, pos, aft, g⟩ (.int k (k.wrap (BitVec.ofInt k.bits a ^^^ BitVec.ofInt k.bits b).toNat)) :=
  fun _ _ ha _ => by simp [execOp, ha.ev hx, ha.ev hy, eqGuard, binOp, Op.intBits]
theorem opv_shl {yk : IntKind} (hx : ev E x = some (.int k a)) (hy : ev E y = some (.int yk b)) (h : 0 ≤ b) : OpV prog σ n E P ⟨d, .binOp .shl t x y t', ty, pos, aft, g⟩ (.int k (k.wrap (a * 2 ^ (min b.toNat k.bits)))) :=
  fun _ _ ha _ => by simp [execOp, ha.ev hx, ha.ev hy, eqGuard, binOp, Op.shift, show ¬ b < 0 by omega]
theorem opv_shr {yk : IntKind} (hx : ev E x = some (.int k a)) (hy : ev E y = some (.int yk b)) (h : 0 ≤ b) : OpV prog σ n E P ⟨d, .binOp .shr t x y t', ty, pos, aft, g⟩ (.int k (a.fdiv (2 ^ (min b.toNat k.bits)))) :=
  fun _ _ ha _ => by simp [execOp, ha.ev hx, ha.ev hy, eqGuard, binOp, Op.shift, show ¬ b < 0 by omega]

theorem opv_eql (hx : ev E x = some (.int k a)) (hy : ev E y = some (.int k b)) : OpV prog σ n E P ⟨d, .binOp .eql t x y t', ty, pos, aft, g⟩ (.bool (decide (a = b))) :=
  fun _ _ ha _ => by simp [execOp, ha.ev hx, ha.ev hy, eqGuard, binOp, Op.intCmp]; rfl
theorem opv_neq (hx : ev E x = some (.int k a)) (hy : ev E y = some (.int k b)) : OpV prog σ n E P ⟨d, .binOp .neq t x y t', ty, pos, aft, g⟩ (.bool (decide (a ≠ b))) :=
  fun _ _ ha _ => by
    have : (a != b) = decide (a ≠ b) := by by_cases h : a = b <;> simp [h]
    simp [execOp, ha.ev hx, ha.ev hy, eqGuard, binOp, Op.intCmp, this]
theorem opv_lss (hx : ev E x = some (.int k a)) (hy : ev E y = some (.int k b)) : OpV prog σ n E P ⟨d, .binOp .lss t x y t', ty, pos, aft, g⟩ (.bool (decide (a < b))) :=
  fun _ _ ha _ => by simp [execOp, ha.ev hx, ha.ev hy, eqGuard, binOp, Op.intCmp]
theorem opv_leq (hx : ev E x = some (.int k a)) (hy : ev E y = some (.int k b)) : OpV prog σ n E P ⟨d, .binOp .leq t x y t', ty, pos, aft, g⟩ (.bool (decide (a ≤ b))) :=
  fun _ _ ha _ => by simp [execOp, ha.ev hx, ha.ev hy, eqGuard, binOp, Op.intCmp]
theorem opv_gtr (hx : ev E x = some (.int k a)) (hy : ev E y = some (.int k b)) : OpV prog σ n E P ⟨d, .binOp .gtr t x y t', ty, pos, aft, g⟩ (.bool (decide (b < a))) :=
  fun _ _ ha _ => by simp [execOp, ha.ev hx, ha.ev hy, eqGuard, binOp, Op.intCmp]
theorem opv_geq (hx : ev E x = some (.int k a)) (hy : ev E y = some (.int k b)) : OpV prog σ n E P ⟨d, .binOp .geq t x y t', ty, pos, aft, g⟩ (.bool (decide (b ≤ a))) :=
  fun _ _ ha _ => by simp [execOp, ha.ev hx, ha.ev hy, eqGuard, binOp, Op.intCmp]

theorem ByteArray_toList_inj {s r : ByteArray} (e : s.toList = r.toList) : s = r := by
  rw [Go.ByteArray.toList_eq, Go.ByteArray.toList_eq] at e
  cases s; cases r
  simp only at e
  rw [Array.toList_inj.1 e]
theorem bytes_beq (s r : ByteArray) : (s.toList == r.toList) = decide (s = r) := by
  by_cases h : s = r
  · subst h; simp
  · have : s.toList ≠ r.toList := fun e => h (ByteArray_toList_inj e)
    simp [h, this]
theorem opv_eqlS (hx : ev E x = some (.string s)) (hy : ev E y = some (.string r)) : OpV prog σ n E P ⟨d, .binOp .eql t x y t', ty, pos, aft, g⟩ (.bool (decide (s = r))) :=
  fun _ _ ha _ => by simp [execOp, ha.ev hx, ha.ev hy, eqGuard, binOp, Op.stringOp, bytes_beq]
theorem opv_neqS (hx : ev E x = some (.string s)) (hy : ev E y = some (.string r)) : OpV prog σ n E P ⟨d, .binOp .neq t x y t', ty, pos, aft, g⟩ (.bool (decide (s ≠ r))) :=
  fun _ _ ha _ => by
    have : (!decide (s = r)) = decide (s ≠ r) := by by_cases h : s = r <;> simp [h]
    simp [execOp, ha.ev hx, ha.ev hy, eqGuard, binOp, Op.stringOp, bytes_beq]
theorem opv_addS (hx : ev E x = some (.string s)) (hy : ev E y = some (.string r)) (h : s.size + r.size ≤ 9223372036854775807) : OpV prog σ n E P ⟨d, .binOp .add t x y t', ty, pos, aft, g⟩ (.string (s ++ r)) :=
  fun _ _ ha _ => by
    have : ¬ ((s.size : Int) + (r.size : Int) > IntKind.i64.max) := by
      have : IntKind.i64.max = 9223372036854775807 := by decide
      omega
    simp only [execOp, ha.ev hx, ha.ev hy]
    rw [show eqGuard .add t x y (.string s) (.string r) = pure () from rfl, show binOp .add t (.string s) (.string r) = Op.stringOp .add s r from rfl]
    have e : Op.stringOp .add s r = (if ((s.size + r.size : Nat) : Int) > IntKind.i64.max then unsupported (.resourceLimit "string concatenation: a sum of the lengths that is no int") else pure (.string (s ++ r))) := rfl
    rw [e, if_neg (by rw [Int.natCast_add]; exact this)]
    rfl
theorem equal_ptr {w : World} {p : Option Addr} [PtrT prog t] : (Op.equal t (.pointer p) (.pointer none)).run prog w = .ok p.isNone w := by
  obtain ⟨e, he⟩ := PtrT.spec (prog := prog) t
  show (Op.equalIn (9999 + 1) t (.pointer p) (.pointer none)).run prog w = _
  generalize 9999 = dep
  unfold Op.equalIn
  rw [Sem.run_bind, run_und' he, Result.andThen_ok]
  cases p <;> rfl
theorem opv_eqlNil {p : Option Addr} [PtrT prog t] (hx : ev E x = some (.pointer p)) (hy : ev E y = some (.pointer none)) : OpV prog σ n E P ⟨d, .binOp .eql t x y t', ty, pos, aft, g⟩ (.bool p.isNone) :=
  fun _ w ha _ => by
    simp only [execOp, ha.ev hx, ha.ev hy]
    rw [show eqGuard .eql t x y (.pointer p) (.pointer none) = pure () from rfl, show binOp .eql t (.pointer p) (.pointer none) = (do pure (.bool (← Op.equal t (.pointer p) (.pointer none)))) from by cases p <;> rfl]
    simp [equal_ptr]
theorem opv_neqNil {p : Option Addr} [PtrT prog t] (hx : ev E x = some (.pointer p)) (hy : ev E y = some (.pointer none)) : OpV prog σ n E P ⟨d, .binOp .neq t x y t', ty, pos, aft, g⟩ (.bool p.isSome) :=
  fun _ w ha _ => by
    simp only [execOp, ha.ev hx, ha.ev hy]
    rw [show eqGuard .neq t x y (.pointer p) (.pointer none) = pure () from rfl, show binOp .neq t (.pointer p) (.pointer none) = (do pure (.bool (!(← Op.equal t (.pointer p) (.pointer none))))) from by cases p <;> rfl]
    simp [equal_ptr]
class BoolT (prog : Program) (t : TypeId) : Prop where
  b : undB prog t (fun | .bool => true | _ => false) = true
theorem equal_bool {w : World} {b c : Bool} [h : BoolT prog t] : (Op.equal t (.bool b) (.bool c)).run prog w = .ok (b == c) w := by
  obtain ⟨dd, hd, h1⟩ := undB_spec h.b
  split at h1
  · show (Op.equalIn (9999 + 1) t (.bool b) (.bool c)).run prog w = _
    generalize 9999 = dep
    unfold Op.equalIn
    rw [Sem.run_bind, run_und' hd, Result.andThen_ok]
    rfl
  · cases h1
theorem opv_eqlB {b c : Bool} [BoolT prog t] (hx : ev E x = some (.bool b)) (hy : ev E y = some (.bool c)) : OpV prog σ n E P ⟨d, .binOp .eql t x y t', ty, pos, aft, g⟩ (.bool (b == c)) := fun _ w ha _ => by
  simp only [execOp, ha.ev hx, ha.ev hy]
  rw [show eqGuard .eql t x y (.bool b) (.bool c) = pure () from rfl, show binOp .eql t (.bool b) (.bool c) = (do pure (.bool (← Op.equal t (.bool b) (.bool c)))) from rfl]
  simp [equal_bool]
theorem opv_neqB {b c : Bool} [BoolT prog t] (hx : ev E x = some (.bool b)) (hy : ev E y = some (.bool c)) : OpV prog σ n E P ⟨d, .binOp .neq t x y t', ty, pos, aft, g⟩ (.bool (b != c)) := fun _ w ha _ => by
  simp only [execOp, ha.ev hx, ha.ev hy]
  rw [show eqGuard .neq t x y (.bool b) (.bool c) = pure () from rfl, show binOp .neq t (.bool b) (.bool c) = (do pure (.bool (!(← Op.equal t (.bool b) (.bool c))))) from rfl]
  simp only [Sem.run_bind, Sem.run_pure, equal_bool, Result.andThen_ok]
  cases b <;> cases c <;> rfl

theorem opv_not {c : Bool} (hx : ev E x = some (.bool c)) : OpV prog σ n E P ⟨d, .unOp .not t x, ty, pos, aft, g⟩ (.bool (!c)) :=
  fun _ _ ha _ => by simp [execOp, ha.ev hx, Op.unary]
theorem opv_notD {p : Prop} [Decidable p] (hx : ev E x = some (.bool (decide p))) : OpV prog σ n E P ⟨d, .unOp .not t x, ty, pos, aft, g⟩ (.bool (decide (¬ p))) :=
  fun _ _ ha _ => by
    have : (!decide p) = decide (¬ p) := by by_cases h : p <;> simp [h]
    simp [execOp, ha.ev hx, Op.unary]
theorem opv_neg (hx : ev E x = some (.int k a)) : OpV prog σ n E P ⟨d, .unOp .neg t x, ty, pos, aft, g⟩ (.int k (k.wrap (0 - a))) :=
  fun _ _ ha _ => by simp [execOp, ha.ev hx, Op.unary, Op.intArith]
theorem opv_compl (hx : ev E x = some (.int k a)) : OpV prog σ n E P ⟨d, .unOp .xor t x, ty, pos, aft, g⟩ (.int k (k.wrap (BitVec.ofInt k.bits (if k.signed then -1 else k.max) ^^^ BitVec.ofInt k.bits a).toNat)) :=
  fun _ _ ha _ => by simp [execOp, ha.ev hx, Op.unary, Op.intBits]

theorem opv_nilCheck {p : Addr} (hx : ev E x = some (.pointer (some p))) : OpV prog σ n E P ⟨d, .nilCheck x, ty, pos, aft, g⟩ (.pointer (some p)) :=
  fun _ _ ha _ => by simp [execOp, ha.ev hx]
theorem opv_extract {vs : Array Value} {i : Nat} (hx : ev E x = some (.tuple vs)) (hi : vs[i]? = some v) : OpV prog σ n E P ⟨d, .extract x i, ty, pos, aft, g⟩ v :=
  fun _ _ ha _ => by simp [execOp, ha.ev hx, Instr.extract, hi]
theorem opv_convert {src dst : TypeId} {k' : IntKind} [IntT prog src k] [IntT prog dst k'] (hx : ev E x = some (.int k a)) : OpV prog σ n E P ⟨d, .convert src dst x, ty, pos, aft, g⟩ (.int k' (k'.wrap a)) :=
  fun _ _ ha _ => by simp [execOp, ha.ev hx, convert, run_und' (IntT.spec (prog := prog) src k), run_und' (IntT.spec (prog := prog) dst k'), Conv.intToInt]
theorem opv_makeFunc {fn : Fn} {first captured : Array Operand} {fs cs : List Value} (hf : evl E first.toList = some fs) (hc : evl E captured.toList = some cs) :
    OpV prog σ n E P ⟨d, .makeFunc fn first captured, ty, pos, aft, g⟩ (.func fn fs.toArray cs.toArray) := fun ac _ ha _ => by
  have h1 : first.map ac.eval = fs.toArray := by rw [← ha.evl hf]; exact Array.toList_inj.1 (by rw [Array.toList_map])
  have h2 : captured.map ac.eval = cs.toArray := by rw [← ha.evl hc]; exact Array.toList_inj.1 (by rw [Array.toList_map])
  simp [execOp, Instr.makeFunc, h1, h2]

theorem opv_fieldAddr {b o f off m : Nat} [Fld prog t f off m] (hx : ev E x = some (.pointer (some (ad b o)))) : OpV prog σ n E P ⟨d, .fieldAddr t x f, ty, pos, aft, g⟩ (.pointer (some (ad b (o + off)))) :=
  fun _ w ha _ => by
    obtain ⟨fs, fl, i, h1, h2, h3, h4, h5, h6⟩ := Fld.spec (prog := prog) t f off m
    have h7 : ¬ i.size = 0 := by omega
    have : (fieldPlace (ad b o) fl).run prog w = .ok (ad b (o + off)) w := by
      unfold fieldPlace
      simp only [Sem.run_bind, run_sizeOf' h4, Result.andThen_ok, h7, if_false, Sem.run_pure, ad_add, h3]
    simp only [execOp, ha.ev hx, Instr.fieldAt, Sem.run_bind, run_und' h1, Result.andThen_ok, h2, Instr.sureAddr, Sem.run_pure, this]
theorem opv_fieldAddr0 {b f off m : Nat} [Fld prog t f off m] (hx : ev E x = some (.pointer (some (ad b 0)))) : OpV prog σ n E P ⟨d, .fieldAddr t x f, ty, pos, aft, g⟩ (.pointer (some (ad b off))) := by
  have := opv_fieldAddr (prog := prog) (σ := σ) (n := n) (P := P) (d := d) (ty := ty) (pos := pos) (aft := aft) (g := g) (t := t) (f := f) (off := off) (m := m) hx
  rwa [Nat.zero_add] at this
theorem opv_indexAddr {b o len cap e m : Nat} [Slc prog t e m] (hx : ev E x = some (.slice (some (ad b o)) len cap)) (hy : ev E y = some (.int k a)) (h : 0 ≤ a ∧ a < len) :
    OpV prog σ n E P ⟨d, .indexAddr t x y, ty, pos, aft, g⟩ (.pointer (some (ad b (o + a.toNat * m)))) := fun _ w ha _ => by
  obtain ⟨h1, i, h2, h3⟩ := Slc.spec (prog := prog) t e m
  simp only [execOp, ha.ev hx, ha.ev hy, Instr.indexAt, Sem.run_bind, asIntOf, Sem.run_pure, run_und' h1, Result.andThen_ok, Sem.run_ite]
  rw [if_pos h]
  simp only [run_sizeOf' h2, Result.andThen_ok, ad_add, h3]
theorem opv_indexAddrA {b o len e m : Nat} [Arr prog t len e m] (hx : ev E x = some (.pointer (some (ad b o)))) (hy : ev E y = some (.int k a)) (h : 0 ≤ a ∧ a < len) :
    OpV prog σ n E P ⟨d, .indexAddr t x y, ty, pos, aft, g⟩ (.pointer (some (ad b (o + a.toNat * m)))) := fun _ w ha _ => by
  obtain ⟨h1, i, h2, h3⟩ := Arr.spec (prog := prog) t len e m
  simp only [execOp, ha.ev hx, ha.ev hy, Instr.indexAt, Sem.run_bind, asIntOf, Sem.run_pure, run_und' h1, Result.andThen_ok, Sem.run_ite, Instr.sureAddr]
  rw [if_pos h]
  simp only [run_sizeOf' h2, Result.andThen_ok, ad_add, h3]
theorem bytes_getElem? (s : ByteArray) (i : Nat) (h : i < s.size) : s[i]? = some (s.data.toList.getD i 0) := by
  have h' : i < s.data.toList.length := by rw [Array.length_toList]; exact h
  rw [getElem?_pos s i h, List.getD_eq_getElem?_getD, List.getElem?_eq_getElem h', Option.getD_some]
  rfl
/-- Byte i of a string. -/
def byt (s : ByteArray) (i : Nat) : Int := (s.data.toList.getD i 0).toNat
theorem byt_lt (s : ByteArray) (i : Nat) : byt s i < 256 := by unfold byt; have := (s.data.toList.getD i 0).toNat_lt; omega
theorem byt_ge (s : ByteArray) (i : Nat) : 0 ≤ byt s i := by unfold byt; omega
theorem opv_indexS [Str prog t] (hx : ev E x = some (.string s)) (hy : ev E y = some (.int k a)) (h : 0 ≤ a ∧ a < s.size) :
    OpV prog σ n E P ⟨d, .index t x y, ty, pos, aft, g⟩ (.int .u8 (byt s a.toNat)) := fun _ w ha _ => by
  have hlt : a.toNat < s.size := by omega
  simp only [execOp, ha.ev hx, ha.ev hy, Instr.index, Sem.run_bind, asIntOf, Sem.run_pure, run_und' (Str.spec (prog := prog) t), Result.andThen_ok]
  rw [if_pos h.1, bytes_getElem? s _ hlt]
  rfl
theorem opv_lenS [Str prog t] (hx : ev E x = some (.string s)) : OpV prog σ n E P ⟨d, .call ⟨.builtin .len, #[x], #[t]⟩, ty, pos, aft, g⟩ (.int .i64 s.size) :=
  fun _ w ha _ => by
    simp only [execOp, resolve, List.map_toArray, List.map_cons, List.map_nil, ha.ev hx, Sem.run_bind, Sem.run_pure, Result.andThen_ok, invoke, builtin, Builtin.len_]
    simp [run_und' (Str.spec (prog := prog) t), goInt]
theorem opv_lenL {e m len cap : Nat} {A : Option Addr} [Slc prog t e m] (hx : ev E x = some (.slice A len cap)) : OpV prog σ n E P ⟨d, .call ⟨.builtin .len, #[x], #[t]⟩, ty, pos, aft, g⟩ (.int .i64 len) :=
  fun _ w ha _ => by
    obtain ⟨h1, i, h2, h3⟩ := Slc.spec (prog := prog) t e m
    simp only [execOp, resolve, List.map_toArray, List.map_cons, List.map_nil, ha.ev hx, Sem.run_bind, Sem.run_pure, Result.andThen_ok, invoke, builtin, Builtin.len_]
    simp [run_und' h1, goInt]
theorem opv_max (hx : ev E x = some (.int k a)) (hy : ev E y = some (.int k b)) : OpV prog σ n E P ⟨d, .call ⟨.builtin .max, #[x, y], #[t, t']⟩, ty, pos, aft, g⟩ (.int k (if b > a then b else a)) :=
  fun _ w ha _ => by
    simp only [execOp, resolve, List.map_toArray, List.map_cons, List.map_nil, ha.ev hx, ha.ev hy, Sem.run_bind, Sem.run_pure, Result.andThen_ok, invoke, builtin, Builtin.max_]
    simp [Builtin.max2]
theorem opv_min (hx : ev E x = some (.int k a)) (hy : ev E y = some (.int k b)) : OpV prog σ n E P ⟨d, .call ⟨.builtin .min, #[x, y], #[t, t']⟩, ty, pos, aft, g⟩ (.int k (if b < a then b else a)) :=
  fun _ w ha _ => by
    simp only [execOp, resolve, List.map_toArray, List.map_cons, List.map_nil, ha.ev hx, ha.ev hy, Sem.run_bind, Sem.run_pure, Result.andThen_ok, invoke, builtin, Builtin.min_]
    simp [Builtin.min2]

/-! ### Loads -/

/-- In every world of P cell 'o' of block 'b' reads as v. -/
def Rd (P : HProp) (b o : Nat) (v : Value) : Prop := ∀ σ w, Sat σ w P → w.cell? (ad b o) = some v
theorem opv_load {b o : Nat} [One prog t] (hx : ev E x = some (.pointer (some (ad b o)))) (hr : Rd P b o v) : OpV prog σ n E P ⟨d, .load t x, ty, pos, aft, g⟩ v :=
  fun _ w ha hs => by
    obtain ⟨dd, i, h1, h2, h3, h4⟩ := One.spec (prog := prog) t
    simp only [execOp, ha.ev hx, Instr.loadAt, Instr.sureAddr, Sem.run_bind, Sem.run_pure, Result.andThen_ok, loadVar, run_isAgg' h1, h2, Bool.false_eq_true, if_false, run_load, hr σ w hs]
theorem opv_loadN {b o m : Nat} {vs : List Value} [Agg prog t m] (hx : ev E x = some (.pointer (some (ad b o)))) (hl : vs.length = m) (hr : ∀ j u, vs[j]? = some u → Rd P b (o + j) u) :
    OpV prog σ n E P ⟨d, .load t x, ty, pos, aft, g⟩ (.agg vs.toArray) :=
  fun _ w ha hs => by
    obtain ⟨dd, i, h1, h2, h3, h4⟩ := Agg.spec (prog := prog) t m
    have hc := run_loadCells_list (P := prog) (w := w) (ad b o) vs (fun j u hj => by rw [ad_add]; exact hr j u hj σ w hs)
    simp only [execOp, ha.ev hx, Instr.loadAt, Instr.sureAddr, Sem.run_bind, Sem.run_pure, Result.andThen_ok, loadVar, run_isAgg' h1, h2, if_true, run_sizeOf' h3, h4]
    rw [← hl, hc]
    rfl
end

end Go.SLA
