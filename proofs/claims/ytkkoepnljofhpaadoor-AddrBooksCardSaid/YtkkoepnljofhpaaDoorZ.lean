/- The string of a part of a block of one's own. -/
import Derived.Test.YtkkoepnljofhpaaDoorY
set_option linter.unusedVariables false
set_option linter.unusedSimpArgs false
namespace Go.SLA
variable {prog : Program} {σ : World} {n : Nat} {E : Env} {P : HProp}
theorem opv_b2sC {d : Option Tmp} {ty : TypeId} {pos : String} {aft : Array Edge} {g : Option (Nat × Bool)} {x : Operand} {src dst e b o k c : Nat} {te : TypeId} {R : HProp} {cells : List Value} (l : List Int) [Slc prog src e 1] [IntT prog e .u8] [Str prog dst] (hx : ev E x = some (.slice (some (ad b o)) k c)) [hk : Look P b cells te R] (hc : (cells.drop o).take k = l.map (.int .u8)) (hl : k = l.length) (h : ∀ v ∈ l, 0 ≤ v ∧ v < 256) :
    OpV prog σ n E P ⟨d, .convert src dst x, ty, pos, aft, g⟩ (.string (bytesL l)) := by
  subst hl
  refine opv_b2s hx (.inr ⟨b, o, c, by rw [bytesL_size], fun j u hj => Rd.look (l := cells) ?_⟩)
  rw [bts_bytesL l h, ← hc, List.getElem?_take] at hj
  split at hj
  · rw [List.getElem?_drop] at hj; exact hj
  · cases hj
/-- An operation in a drawn region that comes up since its guard says so. -/
theorem R_pureG {Q : Exit → Act → World → Prop} {ops : Array Oper} {S0 S : HProp} {B : List Nat} {fuel : Nat} {listed : Array Bool} (i : Nat) {d j t : Nat} {want : Bool} {op : Op} {ty : TypeId} {pos : String} {aft : Array Edge} {v : Value} {R0 : HProp} [NP Q] [h0 : Take P S0 R0] (hi : ops[i]? = some ⟨some d, op, ty, pos, aft, some (j, want)⟩) (hs : Region.noSelect ops = true) (hf : Region.free .any ops listed i = true)
    (hr : (Region.ready .any ops listed).contains i = true) (hiB : B.contains i = false) (hc : clearB B listed = false ∨ ∃ R, P = (sep (S) (R))) (hj : (ops[j]?).bind (·.dst) = some t) (hb : Env.get E t = some (.bool want)) (h : OpV prog σ n E S0 ⟨some d, op, ty, pos, aft, none⟩ v) (hd : Nat.blt d n = true) (k : Rg prog σ n ops Q S0 S B fuel (listed.setIfInBounds i true) ((d, v) :: E) P) :
    Rg prog σ n ops Q S0 S B (fuel + 1) listed E P := fun a w ha hw => by
  refine wpAnyB_first (v := v) false hi (Region.noSelect_spec hs) (fun c a w h => absurd h (NP.no c _ w)) (by simpa using hiB) (fun h => by cases h) fuel listed a w (Region.free_spec hi hf) (by simpa using hr) (.inl ⟨by simp only [Region.wanted, yields ha hj hb]; simp, fun w' hw' => h a w' ha hw'.1⟩) (fun h => by cases h)
    (by have := hw; rw [h0.eq] at this; exact this.left) (fun hcl => ?_) ?_
  · rcases hc with hc | ⟨R, hR⟩
    · rw [hc] at hcl; cases hcl
    · rw [hR] at hw; exact hw.left
  · exact k _ w (ha.put (Nat.le_of_ble_eq_true hd) v) hw
theorem R_onlyG {Q : Exit → Act → World → Prop} {ops : Array Oper} {S0 S : HProp} {B : List Nat} {fuel : Nat} {listed : Array Bool} (i : Nat) {d : Option Tmp} {j t : Nat} {want : Bool} {op : Op} {ty : TypeId} {pos : String} {aft : Array Edge} {X : Type} {φ : X → Prop} {E' : X → Env} {P' : X → HProp} (hi : ops[i]? = some ⟨d, op, ty, pos, aft, some (j, want)⟩) (hj : (ops[j]?).bind (·.dst) = some t) (hb : Env.get E t = some (.bool want)) (hr : Region.ready .any ops listed = [i]) (h : OpX prog σ n E P ⟨d, op, ty, pos, aft, none⟩ φ E' P')
    (hS0 : ∀ x, φ x → ∃ R', P' x = (sep (S0) (R'))) (hS : clearB B (listed.setIfInBounds i true) = false ∨ ∀ x, φ x → ∃ R', P' x = (sep (S) (R'))) (k : ∀ x, φ x → Rg prog σ n ops Q S0 S B fuel (listed.setIfInBounds i true) (E' x) (P' x)) : Rg prog σ n ops Q S0 S B (fuel + 1) listed E P := fun a w ha hw => by
  refine ⟨fun h0 => absurd (hr ▸ h0) (by simp), fun j' hj' => ?_⟩
  rw [hr] at hj'
  obtain rfl : j' = i := by simpa using hj'
  unfold wpOp
  rw [hi]
  simp only [Region.wanted, yields ha hj hb, beq_self_eq_true, if_true]
  have hh := h a w ha hw (fun a' w' => (Sat σ w' S0 ∧ (clearB B (listed.setIfInBounds j' true) = true → Sat σ w' S)) ∧ wpAnyB prog ops Q (fun w => Sat σ w S0) (fun w => Sat σ w S) B fuel (listed.setIfInBounds j' true) a' w') Q (fun x a' w' hx ha' hw' => ⟨⟨by obtain ⟨R', hR⟩ := hS0 x hx; rw [hR] at hw'; exact hw'.left, fun hcl => by
    rcases hS with hS | hS
    · rw [hS] at hcl; cases hcl
    · obtain ⟨R', hR⟩ := hS x hx
      rw [hR] at hw'
      exact hw'.left⟩, k x hx a' w' ha' hw'⟩)
  exact .inl hh
theorem opv_s2a {d : Option Tmp} {ty : TypeId} {pos : String} {aft : Array Edge} {g : Option (Nat × Bool)} {x : Operand} {t k e m len c : Nat} {A : Addr} [Arr prog t k e m] (hx : ev E x = some (.slice (some A) len c)) (h : k ≤ len) : OpV prog σ n E P ⟨d, .sliceToArrayPointer t x, ty, pos, aft, g⟩ (.pointer (some A)) := fun _ w ha _ => by
  obtain ⟨h1, _⟩ := Arr.spec (prog := prog) t k e m
  have : ¬ len < k := by omega
  simp [execOp, ha.ev hx, Instr.arrayAt, run_und' h1, this]
theorem Q_gskipU {ops : Array Oper} {rest : List Oper} {Qa : Act → Prop} {d : Nat} {op : Op} {ty : TypeId} {pos : String} {aft : Array Edge} {j t : Nat} {want b : Bool} (hj : (ops[j]?).bind (·.dst) = some t) (hb : Env.get E t = some (.bool b)) (hne : (b == want) = false) (hd : Nat.blt d n = true)
    (k : QL prog σ n ops rest Qa ((d, undef) :: E) P) : QL prog σ n ops (⟨some d, op, ty, pos, aft, some (j, want)⟩ :: rest) Qa E P := fun a ha => by
  unfold wpQuiet
  have : Region.wanted ⟨some d, op, ty, pos, aft, some (j, want)⟩ (yielded ops a.tmps) = false := by
    simp only [Region.wanted, yields ha hj hb]
    simpa using hne
  rw [this]
  simp only [Bool.false_eq_true, if_false]
  exact k _ (ha.put (Nat.le_of_ble_eq_true hd) undef)
theorem L_gskipU {Q : Exit → Act → World → Prop} {ops : Array Oper} {rest : List Oper} {d : Nat} {op : Op} {ty : TypeId} {pos : String} {aft : Array Edge} {j t : Nat} {want b : Bool} (hj : (ops[j]?).bind (·.dst) = some t) (hb : Env.get E t = some (.bool b)) (hne : (b == want) = false) (hd : Nat.blt d n = true)
    (k : L prog σ n ops rest Q ((d, undef) :: E) P) : L prog σ n ops (⟨some d, op, ty, pos, aft, some (j, want)⟩ :: rest) Q E P := fun a w ha hs => by
  unfold wpList
  have : Region.wanted ⟨some d, op, ty, pos, aft, some (j, want)⟩ (yielded ops a.tmps) = false := by
    simp only [Region.wanted, yields ha hj hb]
    simpa using hne
  rw [this]
  simp only [Bool.false_eq_true, if_false]
  exact k _ w (ha.put (Nat.le_of_ble_eq_true hd) undef) hs
theorem L_gU {Q : Exit → Act → World → Prop} {ops : Array Oper} {rest : List Oper} {d : Nat} {op : Op} {ty : TypeId} {pos : String} {aft : Array Edge} {j t : Nat} {want : Bool} (hj : (ops[j]?).bind (·.dst) = some t) (hb : Env.get E t = some undef) (hd : Nat.blt d n = true)
    (k : L prog σ n ops rest Q ((d, undef) :: E) P) : L prog σ n ops (⟨some d, op, ty, pos, aft, some (j, want)⟩ :: rest) Q E P := fun a w ha hs => by
  unfold wpList
  have : Region.wanted ⟨some d, op, ty, pos, aft, some (j, want)⟩ (yielded ops a.tmps) = false := by
    simp only [Region.wanted, yielded, hj, Option.bind_some, ha.slot t _ hb, undef]
    rfl
  rw [this]
  simp only [Bool.false_eq_true, if_false]
  exact k _ w (ha.put (Nat.le_of_ble_eq_true hd) undef) hs
end Go.SLA
