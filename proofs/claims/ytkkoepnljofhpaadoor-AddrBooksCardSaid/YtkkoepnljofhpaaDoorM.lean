/- A byte stored into the array behind a conversion to bytes; the bytes back as a string. -/
import Derived.Test.YtkkoepnljofhpaaDoorK
import Derived.Test.YtkkoepnljofhpaaDoorN
set_option linter.unusedVariables false
set_option linter.unusedSimpArgs false
namespace Go.SLA

/-- A string with another byte at a place. -/
def setB (s : ByteArray) (j u : Nat) : ByteArray := ⟨s.data.setIfInBounds j (UInt8.ofNat u)⟩
theorem setB_size (s : ByteArray) (j u : Nat) : (setB s j u).size = s.size := by unfold setB ByteArray.size; simp
theorem bytesRow_setB (s : ByteArray) {j u : Nat} (c : Nat) (hj : j < s.size) (hu : u < 256) : bytesRow (setB s j u) c = (bytesRow s c).setIfInBounds j (.int .u8 (u : Int)) := by
  have hs : (setB s j u).size = s.size := setB_size s j u
  have hj' : j < s.data.size := hj
  unfold bytesRow
  rw [hs]
  unfold setB
  apply Array.toList_inj.1
  simp only [Array.toList_append, Array.toList_map, Array.toList_setIfInBounds, Array.toList_replicate, List.map_set]
  rw [List.set_append_left _ _ (by simpa using hj'), UInt8.toNat_ofNat', Nat.mod_eq_of_lt hu]
variable {prog : Program} {σ : World} {n : Nat} {E : Env} {P R : HProp}
theorem Src.byb {b c : Nat} {s : ByteArray} {e : TypeId} [h : Take P (SLA.byb b s c e) R] : Src P (.slice (some (ad b 0)) s.size c) s.size (bts s) := by
  refine .inr ⟨b, 0, c, rfl, fun j u hu => ?_⟩
  rw [Nat.zero_add]
  rcases Nat.lt_or_ge j s.size with hj | hj
  · rw [bts_get s j hj] at hu
    cases hu
    exact Rd.byb (c := c) (e := e) hj
  · rw [List.getElem?_eq_none (by rw [bts_len]; exact hj)] at hu
    cases hu
/-- The same, where the length is known under another name. -/
theorem Src.bybL {b c k : Nat} {s : ByteArray} {e : TypeId} [h : Take P (SLA.byb b s c e) R] (hk : s.size = k) : Src P (.slice (some (ad b 0)) k c) s.size (bts s) := by
  subst hk
  exact Src.byb (e := e)
theorem u8_xor_val {a b : Nat} (ha : a < 256) (hb : b < 256) : IntKind.u8.wrap ((BitVec.ofInt IntKind.u8.bits (a : Int) ^^^ BitVec.ofInt IntKind.u8.bits (b : Int)).toNat : Int) = ((a ^^^ b : Nat) : Int) := by
  have hx : a ^^^ b < 2 ^ 8 := Nat.xor_lt_two_pow (by omega) (by omega)
  have e1 : ∀ c : Nat, c < 256 → (BitVec.ofInt IntKind.u8.bits (c : Int)).toNat = c := fun c hc => by
    show (BitVec.ofInt 8 (c : Int)).toNat = c
    rw [BitVec.toNat_ofInt]
    omega
  rw [BitVec.toNat_xor, e1 a ha, e1 b hb, Go.IntWalk.u8_in _ (by omega)]
theorem xor_ne {a b : Nat} (hb : b ≠ 0) : a ^^^ b ≠ a := fun e => hb (by
  have h := congrArg (fun c => a ^^^ c) e
  simp only [← Nat.xor_assoc, Nat.xor_self, Nat.zero_xor] at h
  exact h)
theorem xor8_lt {a b : Nat} (ha : a < 256) (hb : b < 256) : a ^^^ b < 256 := Nat.xor_lt_two_pow (n := 8) ha hb
section
variable {d : Option Tmp} {ty : TypeId} {t t' : TypeId} {pos : String} {aft : Array Edge} {g : Option (Nat × Bool)} {x y : Operand}
theorem opv_xor8 {a b : Nat} (hx : ev E x = some (.int .u8 (a : Int))) (hy : ev E y = some (.int .u8 (b : Int))) (ha : a < 256) (hb : b < 256) : OpV prog σ n E P ⟨d, .binOp .xor t x y t', ty, pos, aft, g⟩ (.int .u8 ((a ^^^ b : Nat) : Int)) :=
  (opv_xor hx hy).as (congrArg (Value.int .u8) (u8_xor_val ha hb))
end
section
variable {ty : TypeId} {pos : String} {aft : Array Edge} {g : Option (Nat × Bool)} {x y : Operand}
theorem opx_storeB {t te : TypeId} {b j c u : Nat} {s : ByteArray} [Siz prog t 1] (hx : ev E x = some (.pointer (some (ad b j)))) (hy : ev E y = some (.int .u8 (u : Int))) [hk : Take P (byb b s c te) R] (hj : j < s.size) (hu : u < 256) :
    OpX prog σ n E P ⟨none, .store t x y, ty, pos, aft, g⟩ (fun _ : Unit => True) (fun _ => E) (fun _ => (sep (byb b (setB s j u) c te) (R))) := by
  refine OpX.of_skip rfl fun a w ha hw => ?_
  rw [hk.eq] at hw
  have hcell := sat_byb hw hj
  have hb := hw.blk
  have hfz : w.frozen? (ad b j) = false := by
    unfold World.frozen?
    simp only [ad, hb]
    have : j < (bytesRow s c).size := by
      unfold bytesRow
      have : j < s.data.size := hj
      simp; omega
    simp only [Bool.and_eq_false_imp, decide_eq_true_eq]
    intro h; omega
  obtain ⟨i, hi, h2⟩ := Siz.spec (prog := prog) t 1
  have hst : (storeVar t (ad b j) (.int .u8 (u : Int))).run prog w = .ok () (w.setCell (ad b j) (.int .u8 (u : Int))) := by
    have hadd : (ad b j).add 0 = ad b j := by unfold Addr.add; split <;> simp_all [ad]
    unfold storeVar
    simp only [Sem.run_bind, run_sizeOf' hi, Result.andThen_ok, Value.cells, List.size_toArray, List.length_cons, List.length_nil, h2, ne_eq, not_true_eq_false, if_false, Sem.run_pure, Sem.run_ite, storeCells, hadd]
    rw [run_store prog w _ _ _ rfl]
    simp [hcell, hfz, storeCells]
  refine ⟨(), w.setCell (ad b j) (.int .u8 (u : Int)), trivial, ?_, ?_⟩
  rotate_left
  · refine hw.update (w' := w.setCell (ad b j) (.int .u8 (u : Int))) (o' := .cells (bytesRow (setB s j u) c) te ((bytesRow (setB s j u) c).size, (bytesRow (setB s j u) c).size + 1)) rfl rfl rfl ?_ ?_
    · have hlt : b < w.heap.size := (Array.getElem?_eq_some_iff.1 hb).1
      have hv := (Array.getElem?_eq_some_iff.1 hb).2
      unfold World.setCell
      simp only [ad]
      rw [Array.getElem?_modify, if_pos rfl, hb]
      simp only [Option.map_some, Option.isSome_none, Bool.false_eq_true, if_false]
      rw [bytesRow_setB s c hj hu, Array.size_setIfInBounds]
    · intro k hk'
      unfold World.setCell
      simp only [ad]
      rw [Array.getElem?_modify, if_neg (fun e => hk' e.symm)]
  · simp only [execOp, ha.ev hx, ha.ev hy, Instr.storeAt, Instr.sureAddr, Sem.run_bind, Sem.run_pure, Result.andThen_ok, hst]
end
end Go.SLA
