/- A literal of an array. -/
import Derived.Test.YtkkoepnljofhpaaDoorV
set_option linter.unusedVariables false
set_option linter.unusedSimpArgs false
namespace Go.SLA
variable {prog : Program} {σ : World} {n : Nat} {E : Env} {P : HProp}
theorem fill_congr {f g : Nat → Option (Nat × Nat)} : ∀ (ps : List (Nat × Value)) (l : Array Value), (∀ p ∈ ps, f p.1 = g p.1) → Instr.fill f l ps = Instr.fill g l ps
  | [], _, _ => rfl
  | (i, v) :: ps, l, h => by
    rw [Instr.fill, Instr.fill, show f i = g i from h (i, v) (by simp)]
    have ih := fun l => fill_congr ps l (fun p hp => h p (by simp [hp]))
    split
    · rfl
    · split
      · rfl
      · exact ih _
theorem opv_buildA {t k e m : Nat} {d : Option Tmp} {ty : TypeId} {pos : String} {aft : Array Edge} {g : Option (Nat × Bool)} {zs l : List Value} {pl : List (Nat × Nat)} {parts : Array (Nat × Operand)} {ps : List (Nat × Value)} [Arr prog t k e m] [Zer prog t zs] (he : evp E parts.toList = some ps) [hf : Fil pl zs ps l] (hpl : ps.all (fun p => pl[p.1]? == some (p.1 * m, m)) = true) :
    OpV prog σ n E P ⟨d, .build t parts, ty, pos, aft, g⟩ (.agg l.toArray) := fun a w ha _ => by
  obtain ⟨i, z, h1, h2, h3⟩ := Zer.spec (prog := prog) t zs
  obtain ⟨hu, j, hj, hs⟩ := Arr.spec (prog := prog) t k e m
  have hps : (parts.map fun x => (x.1, a.eval x.2)) = ps.toArray := by rw [← ha.evp he]; exact Array.toList_inj.1 (by rw [Array.toList_map])
  have hz : z.cells = zs.toArray := by rw [← h3]
  have hfl : Instr.fill (fun i => some (i * j.size, j.size)) zs.toArray ps = some l.toArray := by
    rw [← hf.eq, hs]
    refine fill_congr ps _ fun p hp => ?_
    have := List.all_eq_true.1 hpl p hp
    exact (eq_of_beq this).symm
  simp only [execOp, Instr.build, zeroValue, Sem.run_bind, run_typeInfo' h1, Result.andThen_ok, h2, Sem.run_pure, run_und' hu, run_sizeOf' hj, hps, hz, hfl]
/-- An operation that does not come up: its slot is undefined behind it. -/
theorem Q_gt_offU {ops : Array Oper} {rest : List Oper} {Qa : Act → Prop} {d : Nat} {op : Op} {ty : TypeId} {pos : String} {aft : Array Edge} {j t : Nat} {p : Prop} [Decidable p] (h : ¬ p) (hj : (ops[j]?).bind (·.dst) = some t) (hb : Env.get E t = some (.bool (decide p))) (hd : Nat.blt d n = true)
    (k : QL prog σ n ops rest Qa ((d, undef) :: E) P) : QL prog σ n ops (⟨some d, op, ty, pos, aft, some (j, true)⟩ :: rest) Qa E P := fun a ha => by
  unfold wpQuiet
  have : Region.wanted ⟨some d, op, ty, pos, aft, some (j, true)⟩ (yielded ops a.tmps) = false := by
    simp only [Region.wanted, yields ha hj hb]
    simp [h]
  rw [this]
  simp only [Bool.false_eq_true, if_false]
  exact k _ (ha.put (Nat.le_of_ble_eq_true hd) undef)
theorem Q_gU {ops : Array Oper} {rest : List Oper} {Qa : Act → Prop} {d : Nat} {op : Op} {ty : TypeId} {pos : String} {aft : Array Edge} {j t : Nat} {want : Bool} (hj : (ops[j]?).bind (·.dst) = some t) (hb : Env.get E t = some undef) (hd : Nat.blt d n = true)
    (k : QL prog σ n ops rest Qa ((d, undef) :: E) P) : QL prog σ n ops (⟨some d, op, ty, pos, aft, some (j, want)⟩ :: rest) Qa E P := fun a ha => by
  unfold wpQuiet
  have : Region.wanted ⟨some d, op, ty, pos, aft, some (j, want)⟩ (yielded ops a.tmps) = false := by
    simp only [Region.wanted, yielded, hj, Option.bind_some, ha.slot t _ hb, undef]
    rfl
  rw [this]
  simp only [Bool.false_eq_true, if_false]
  exact k _ (ha.put (Nat.le_of_ble_eq_true hd) undef)
end Go.SLA
