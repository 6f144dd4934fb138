/- Contracts of functions of the translation, each proved by a walk over its code; they are used by the texts that import this one. -/
import Derived.Test.YtdmlcnecildliaaBb
import Derived.Test.YtdmlcnecildliaaH
namespace Go.Proofs.Ytdmlcnecildliaa
open Go.SLA
set_option maxRecDepth 100000
set_option linter.unusedVariables false
set_option linter.unusedSimpArgs false
attribute [local irreducible] J L K QL Rg FSpec OpV OpX Rd Back

/-- A writer at p: what was written, and whether something was wrong. -/
def WrP (p : Nat) (s : ByteArray) (bad : Bool) : HProp := ex fun x : Option Addr × Nat => (sep (cel p [.slice x.1 (ByteArray.size s) x.2, .bool bad] 42) (Own 5 1 (.slice x.1 (ByteArray.size s) x.2) (ByteArray.size s) (bts s)))
theorem WrP.fold {p : Nat} {s : ByteArray} {bad : Bool} {F : HProp} (x : Option Addr × Nat) : Ent (sep (cel p [.slice x.1 (ByteArray.size s) x.2, .bool bad] 42) (sep (Own 5 1 (.slice x.1 (ByteArray.size s) x.2) (ByteArray.size s) (bts s)) (F))) (sep (WrP p s bad) (F)) := by
  rw [← sep_assoc]
  exact Ent.ex (f := fun x : Option Addr × Nat => (sep (cel p [.slice x.1 (ByteArray.size s) x.2, .bool bad] 42) (Own 5 1 (.slice x.1 (ByteArray.size s) x.2) (ByteArray.size s) (bts s)))) x
/-- The c bytes of a number, the highest ones first. -/
def be (m : Nat) : Nat → ByteArray
  | 0 => bytesL []
  | c + 1 => bytesL [((m / 256 ^ c % 256 : Nat) : Int)] ++ be m c
theorem be_size (m : Nat) : ∀ c, (be m c).size = c
  | 0 => rfl
  | c + 1 => by rw [be, ByteArray.size_append, bytesL_size, be_size m c]; simp; omega
/-- Has a number so few bits? -/
def fitB (m : Int) (w : Nat) : Prop := 0 ≤ m ∧ m / 2 ^ (min ((w : Int)).toNat 64) = 0
instance (m : Int) (w : Nat) : Decidable (fitB m w) := inferInstanceAs (Decidable (_ ∧ _))
theorem fit_lt {m : Int} {c : Nat} (h : fitB m (8 * c)) (hc : c ≤ 4) : 0 ≤ m ∧ m < 2 ^ (8 * c) ∧ m < 4294967296 := by
  obtain ⟨h0, h1⟩ := h
  have e : (min (((8 * c : Nat) : Int)).toNat 64) = 8 * c := by rw [Int.toNat_natCast]; omega
  rw [e] at h1
  have hp : (0 : Int) < 2 ^ (8 * c) := Int.pow_pos (by decide)
  have h2 : m < 2 ^ (8 * c) := by
    rcases Int.lt_or_le m (2 ^ (8 * c)) with h | h
    · exact h
    · exfalso
      have := Int.ediv_pos_of_pos_of_dvd (a := 1) (b := 1) (by decide) (by decide) (by decide)
      have h3 : 1 ≤ m / 2 ^ (8 * c) := by
        rw [Int.le_ediv_iff_mul_le hp]; omega
      omega
  refine ⟨h0, h2, ?_⟩
  have h3 : (2 : Int) ^ (8 * c) ≤ 2 ^ 32 := by
    have : (2 : Nat) ^ (8 * c) ≤ 2 ^ 32 := Nat.pow_le_pow_right (by decide) (by omega)
    exact_mod_cast this
  have h4 : (2 : Int) ^ 32 = 4294967296 := by decide
  omega
theorem wrap8 {m j : Nat} {z : Int} (hj : j < 4) (hz : z = 8 * j) : Value.int .u8 (IntKind.u8.wrap ((m : Int) / 2 ^ (min z.toNat IntKind.u32.bits))) = .int .u8 ((m / 256 ^ j % 256 : Nat) : Int) := by
  have e : (min z.toNat IntKind.u32.bits) = 8 * j := by
    have : IntKind.u32.bits = 32 := rfl
    omega
  rw [e, IntKind.wrap_u8]
  have e2 : (2 : Int) ^ (8 * j) = ((256 ^ j : Nat) : Int) := by
    rw [show (256 : Nat) ^ j = 2 ^ (8 * j) from (Nat.pow_mul 2 8 j).symm, Int.natCast_pow]
    rfl
  rw [e2, ← Int.natCast_ediv]
  congr 1
theorem be_one {m j : Nat} (h : 1 ≤ j) : be m j = bytesL [((m / 256 ^ (j - 1) % 256 : Nat) : Int)] ++ be m (j - 1) := by
  obtain ⟨i, rfl⟩ : ∃ i, j = i + 1 := ⟨j - 1, by omega⟩
  rfl
theorem bts_snoc (q : ByteArray) (v : Nat) (h : v < 256) : bts q ++ [.int .u8 (v : Int)] = bts (q ++ bytesL [(v : Int)]) := by
  rw [bts_append, bts_bytesL _ (by simp; omega)]
  rfl
theorem size_snoc (q : ByteArray) (v : Int) : q.size + 1 = (q ++ bytesL [v]).size := by rw [ByteArray.size_append, bytesL_size]; rfl
theorem app_nil (q : ByteArray) : q ++ bytesL [] = q := by
  show q ++ ByteArray.empty = q
  simp

theorem put_nil (m w : Int) : FSpec Try.prog 54 #[.pointer none, .int .i64 m, .int .i64 w] (emp) (fun _ : Unit => True) (fun _ => .tuple #[]) (fun _ => emp) := by
  refine FSpec.enter' Try.func54 rfl Try.ntmps54 rfl fun σ F => ?_
  refine J_seq ?_
  refine J_seq ?_
  refine J_region ?_
  refine L_v (opv_move rfl) rfl ?_
  first
    | refine L_v (opv_eql rfl rfl) rfl ?_
    | refine L_v (opv_eqlS rfl rfl) rfl ?_
    | refine L_v (opv_eqlNil rfl rfl) rfl ?_
    | refine L_v (opv_eqlB rfl rfl) rfl ?_
  refine L_v (opv_move rfl) rfl ?_
  refine L_gskip rfl rfl rfl ?_ (fun _ h => by cases h; rfl)
  refine L_gskip rfl rfl rfl ?_ (fun _ h => by cases h; rfl)
  refine L_gskip rfl rfl rfl ?_ (fun _ h => by cases h; rfl)
  refine L_gskip rfl rfl rfl ?_ (fun _ h => by cases h; rfl)
  first
    | refine L_v (opv_pick_tt rfl rfl) rfl ?_
    | refine L_v (opv_pick_ff rfl rfl) rfl ?_
    | refine L_v (opv_pick rfl rfl rfl) rfl ?_
  refine L_nil ?_
  refine K_then ?_
  refine J_cond_true rfl ?_
  refine J_ret ?_
  refine K_then_ret ?_
  exact K_ret0 rfl () trivial rfl (Ent.refl _)

theorem put_bad (p : Nat) (s : ByteArray) (m w : Int) : FSpec Try.prog 54 #[.pointer (some (ad p 0)), .int .i64 m, .int .i64 w] (WrP p s true) (fun _ : Unit => True) (fun _ => .tuple #[]) (fun _ => WrP p s true) := by
  refine FSpec.enter' Try.func54 rfl Try.ntmps54 rfl fun σ F => ?_
  refine J_ex fun x => ?_
  refine J_eq _ (sep_assoc _ _ _) ?_
  refine J_seq ?_
  refine J_seq ?_
  refine J_region ?_
  refine L_v (opv_move rfl) rfl ?_
  first
    | refine L_v (opv_eql rfl rfl) rfl ?_
    | refine L_v (opv_eqlS rfl rfl) rfl ?_
    | refine L_v (opv_eqlNil rfl rfl) rfl ?_
    | refine L_v (opv_eqlB rfl rfl) rfl ?_
  refine L_v (opv_move rfl) rfl ?_
  refine L_gon rfl rfl rfl ?_
  refine L_v (opv_move rfl) rfl ?_
  refine L_gon rfl rfl rfl ?_
  refine L_v (opv_nilCheck rfl) rfl ?_
  refine L_gon rfl rfl rfl ?_
  first
    | refine L_v (opv_fieldAddr0 rfl) rfl ?_
    | refine L_v (opv_fieldAddr rfl) rfl ?_
  refine L_gon rfl rfl rfl ?_
  refine L_v (opv_load rfl (Rd.look rfl)) rfl ?_
  first
    | refine L_v (opv_pick_tt rfl rfl) rfl ?_
    | refine L_v (opv_pick_ff rfl rfl) rfl ?_
    | refine L_v (opv_pick rfl rfl rfl) rfl ?_
  refine L_nil ?_
  refine K_then ?_
  refine J_cond_true rfl ?_
  refine J_ret ?_
  refine K_then_ret ?_
  exact K_ret0 rfl () trivial rfl (Ent.trans Ent.take (WrP.fold x))

theorem put_unfit (p : Nat) (s : ByteArray) (m : Int) (c : Nat) (hc : 1 ≤ c ∧ c ≤ 4) (hm : -9223372036854775808 ≤ m ∧ m ≤ 9223372036854775807) (h : ¬ fitB m (8 * c)) : FSpec Try.prog 54 #[.pointer (some (ad p 0)), .int .i64 m, .int .i64 (8 * c : Nat)] (WrP p s false) (fun _ : Unit => True) (fun _ => .tuple #[]) (fun _ => WrP p s true) := by
  refine FSpec.enter' Try.func54 rfl Try.ntmps54 rfl fun σ F => ?_
  refine J_ex fun x => ?_
  refine J_eq _ (sep_assoc _ _ _) ?_
  refine J_seq ?_
  refine J_seq ?_
  refine J_region ?_
  refine L_v (opv_move rfl) rfl ?_
  first
    | refine L_v (opv_eql rfl rfl) rfl ?_
    | refine L_v (opv_eqlS rfl rfl) rfl ?_
    | refine L_v (opv_eqlNil rfl rfl) rfl ?_
    | refine L_v (opv_eqlB rfl rfl) rfl ?_
  refine L_v (opv_move rfl) rfl ?_
  refine L_gon rfl rfl rfl ?_
  refine L_v (opv_move rfl) rfl ?_
  refine L_gon rfl rfl rfl ?_
  refine L_v (opv_nilCheck rfl) rfl ?_
  refine L_gon rfl rfl rfl ?_
  first
    | refine L_v (opv_fieldAddr0 rfl) rfl ?_
    | refine L_v (opv_fieldAddr rfl) rfl ?_
  refine L_gon rfl rfl rfl ?_
  refine L_v (opv_load rfl (Rd.look rfl)) rfl ?_
  first
    | refine L_v (opv_pick_tt rfl rfl) rfl ?_
    | refine L_v (opv_pick_ff rfl rfl) rfl ?_
    | refine L_v (opv_pick rfl rfl rfl) rfl ?_
  refine L_nil ?_
  refine K_then ?_
  refine J_cond_false rfl ?_
  refine J_skip ?_
  refine K_then ?_
  refine J_seq ?_
  refine J_seq ?_
  refine J_region ?_
  refine L_v (opv_move rfl) rfl ?_
  refine L_v (opv_move rfl) rfl ?_
  refine L_v (opv_move rfl) rfl ?_
  refine L_x rfl (opx_call0 (bfits_spec m (8 * c : Nat) (by omega) hm) rfl rfl rfl) (fun _ _ => ?_)
  refine L_emp ?_
  refine L_v ((opv_notD rfl).bool_t h) rfl ?_
  refine L_v (opv_nilCheck rfl) rfl ?_
  first
    | refine L_v (opv_fieldAddr0 rfl) rfl ?_
    | refine L_v (opv_fieldAddr rfl) rfl ?_
  refine L_x rfl (opx_store rfl rfl rfl (by simp [Value.oneCell'])) (fun _ _ => ?_)
  refine L_nil ?_
  refine K_then ?_
  refine J_seq ?_
  refine J_region ?_
  refine L_v (opv_move rfl) rfl ?_
  refine L_v (opv_nilCheck rfl) rfl ?_
  first
    | refine L_v (opv_fieldAddr0 rfl) rfl ?_
    | refine L_v (opv_fieldAddr rfl) rfl ?_
  refine L_v (opv_load rfl (Rd.look rfl)) rfl ?_
  refine L_nil ?_
  refine K_then ?_
  refine J_cond_true rfl ?_
  refine J_ret ?_
  refine K_then_ret ?_
  exact K_ret0 rfl () trivial rfl (Ent.trans Ent.take (WrP.fold x))

theorem put_fit (p : Nat) (s : ByteArray) (m c : Nat) (hc : 1 ≤ c ∧ c ≤ 4) (h : fitB m (8 * c)) (hs : s.size ≤ 1099511627776) : FSpec Try.prog 54 #[.pointer (some (ad p 0)), .int .i64 m, .int .i64 (8 * c : Nat)] (WrP p s false) (fun _ : Unit => True) (fun _ => .tuple #[]) (fun _ => WrP p (s ++ be m c) false) := by
  have hf := fit_lt h hc.2
  refine FSpec.enter' Try.func54 rfl Try.ntmps54 rfl fun σ F => ?_
  refine J_ex fun x => ?_
  refine J_eq _ (sep_assoc _ _ _) ?_
  refine J_seq ?_
  refine J_seq ?_
  refine J_region ?_
  refine L_v (opv_move rfl) rfl ?_
  first
    | refine L_v (opv_eql rfl rfl) rfl ?_
    | refine L_v (opv_eqlS rfl rfl) rfl ?_
    | refine L_v (opv_eqlNil rfl rfl) rfl ?_
    | refine L_v (opv_eqlB rfl rfl) rfl ?_
  refine L_v (opv_move rfl) rfl ?_
  refine L_gon rfl rfl rfl ?_
  refine L_v (opv_move rfl) rfl ?_
  refine L_gon rfl rfl rfl ?_
  refine L_v (opv_nilCheck rfl) rfl ?_
  refine L_gon rfl rfl rfl ?_
  first
    | refine L_v (opv_fieldAddr0 rfl) rfl ?_
    | refine L_v (opv_fieldAddr rfl) rfl ?_
  refine L_gon rfl rfl rfl ?_
  refine L_v (opv_load rfl (Rd.look rfl)) rfl ?_
  first
    | refine L_v (opv_pick_tt rfl rfl) rfl ?_
    | refine L_v (opv_pick_ff rfl rfl) rfl ?_
    | refine L_v (opv_pick rfl rfl rfl) rfl ?_
  refine L_nil ?_
  refine K_then ?_
  refine J_cond_false rfl ?_
  refine J_skip ?_
  refine K_then ?_
  refine J_seq ?_
  refine J_seq ?_
  refine J_region ?_
  refine L_v (opv_move rfl) rfl ?_
  refine L_v (opv_move rfl) rfl ?_
  refine L_v (opv_move rfl) rfl ?_
  refine L_x rfl (opx_call0 (bfits_spec m (8 * c : Nat) (by omega) (by omega)) rfl rfl rfl) (fun _ _ => ?_)
  refine L_emp ?_
  refine L_v ((opv_notD rfl).bool_f (fun h1 => h1 h)) rfl ?_
  refine L_v (opv_nilCheck rfl) rfl ?_
  first
    | refine L_v (opv_fieldAddr0 rfl) rfl ?_
    | refine L_v (opv_fieldAddr rfl) rfl ?_
  refine L_x rfl (opx_store rfl rfl rfl (by simp [Value.oneCell'])) (fun _ _ => ?_)
  refine L_nil ?_
  refine K_then ?_
  refine J_seq ?_
  refine J_region ?_
  refine L_v (opv_move rfl) rfl ?_
  refine L_v (opv_nilCheck rfl) rfl ?_
  first
    | refine L_v (opv_fieldAddr0 rfl) rfl ?_
    | refine L_v (opv_fieldAddr rfl) rfl ?_
  refine L_v (opv_load rfl (Rd.look rfl)) rfl ?_
  refine L_nil ?_
  refine K_then ?_
  refine J_cond_false rfl ?_
  refine J_skip ?_
  refine K_then ?_
  refine J_seq ?_
  refine J_region ?_
  refine L_v (opv_move rfl) rfl ?_
  first
    | refine L_v (opv_sub64 rfl rfl (by omega)) rfl ?_
    | refine L_v (opv_sub rfl rfl) rfl ?_
  refine L_v (opv_assign rfl) rfl ?_
  refine L_nil ?_
  refine K_then ?_
  refine J_block ?_
  refine J_loop (X := Nat × Int × ByteArray × (Option Addr × Nat)) (fun y => [(0, .pointer (some (ad p 0))), (1, .int .i64 m), (6, .int .i64 y.2.1)]) (fun y => (sep (cel p [.slice y.2.2.2.1 (ByteArray.size y.2.2.1) y.2.2.2.2, .bool false] 42) (sep (Own 5 1 (.slice y.2.2.2.1 (ByteArray.size y.2.2.1) y.2.2.2.2) (ByteArray.size y.2.2.1) (bts y.2.2.1)) (F)))) (fun y => (y.1 ≤ c ∧ y.2.1 = ((8 * y.1 : Nat) : Int) - 8) ∧ y.2.2.1 ++ be m y.1 = s ++ be m c) (fun y => y.1) ((c, ((8 * c : Nat) : Int) - 8, s, x)) ⟨⟨Nat.le_refl _, rfl⟩, rfl⟩ ⟨rfl, rfl, rfl, trivial⟩ (Ent.refl _) (fun y hy => ?_)
  obtain ⟨⟨hk, hz⟩, hy⟩ := hy
  have hsz := congrArg ByteArray.size hy
  rw [ByteArray.size_append, ByteArray.size_append, be_size, be_size] at hsz
  refine J_seq ?_
  refine J_seq ?_
  refine J_region ?_
  refine L_v (opv_move rfl) rfl ?_
  refine L_v (opv_geq rfl rfl) rfl ?_
  refine L_nil ?_
  refine K_then ?_
  refine J_cond rfl (fun h1 => ?_) (fun h1 => ?_)
  · refine J_skip ?_
    refine K_then ?_
    refine J_seq ?_
    refine J_block ?_
    refine J_region ?_
    refine L_v (opv_move rfl) rfl ?_
    refine L_v (opv_move rfl) rfl ?_
    refine L_v (opv_nilCheck rfl) rfl ?_
    first
      | refine L_v (opv_fieldAddr0 rfl) rfl ?_
      | refine L_v (opv_fieldAddr rfl) rfl ?_
    refine L_v (opv_load rfl (Rd.look rfl)) rfl ?_
    refine L_v (opv_move rfl) rfl ?_
    first
      | refine L_v (opv_convW rfl (Go.IntWalk.u32_in _ (by omega))) rfl ?_
      | refine L_v (opv_convert rfl) rfl ?_
    refine L_v (opv_move rfl) rfl ?_
    first
      | refine L_v (opv_convW rfl (Go.IntWalk.u64_in _ (by omega))) rfl ?_
      | refine L_v (opv_convert rfl) rfl ?_
    first
      | refine L_v (opv_shrP rfl rfl (by omega)) rfl ?_
      | refine L_v (opv_shr rfl rfl (by omega)) rfl ?_
    refine L_v ((opv_convert rfl).as (wrap8 (j := y.1 - 1) (by omega) (by omega))) rfl ?_
    refine L_x rfl (opx_buildSlice1 (m := 1) rfl rfl (by omega) (by omega) rfl) (fun b43 _ => ?_)
    refine L_x rfl (opx_append (m := 1) (B := 1) rfl rfl (Src.lit) rfl (by omega) rfl (by simp [Value.oneCell']) (by unfold maxLen; omega) (by omega) rfl) (fun y44 _ => ?_)
    refine L_v (opv_nilCheck rfl) rfl ?_
    first
      | refine L_v (opv_fieldAddr0 rfl) rfl ?_
      | refine L_v (opv_fieldAddr rfl) rfl ?_
    refine L_x rfl (opx_store rfl rfl rfl (by simp [Value.oneCell'])) (fun _ _ => ?_)
    refine L_nil ?_
    refine K_block ?_
    refine K_then ?_
    refine J_region ?_
    refine L_v (opv_move rfl) rfl ?_
    first
      | refine L_v (opv_sub64 rfl rfl (by omega)) rfl ?_
      | refine L_v (opv_sub rfl rfl) rfl ?_
    refine L_v (opv_assign rfl) rfl ?_
    refine L_nil ?_
    have hv : (m / 256 ^ (y.1 - 1) % 256) < 256 := Nat.mod_lt _ (by decide)
    rw [bts_snoc y.2.2.1 (m / 256 ^ (y.1 - 1) % 256) hv, size_snoc y.2.2.1 (((m / 256 ^ (y.1 - 1) % 256) : Nat) : Int)]
    exact K_loop ((y.1 - 1, y.2.1 - 8, y.2.2.1 ++ bytesL [(((m / 256 ^ (y.1 - 1) % 256) : Nat) : Int)], y44)) ⟨⟨by show y.1 - 1 ≤ c; omega, by show y.2.1 - 8 = _; omega⟩, by show y.2.2.1 ++ bytesL [(((m / 256 ^ (y.1 - 1) % 256) : Nat) : Int)] ++ be m (y.1 - 1) = _; rw [ByteArray.append_assoc, ← be_one (by omega)]; exact hy⟩ (by show y.1 - 1 < y.1; omega) ⟨rfl, rfl, rfl, trivial⟩ Ent.take
  · refine J_exit ?_
    refine K_then_exit ?_
    refine K_then_exit ?_
    refine K_block_here ?_
    have h0 : y.1 = 0 := by omega
    rw [h0] at hy
    rw [be, app_nil] at hy
    rw [← hy]
    exact K_end0 rfl () trivial rfl (Ent.trans Ent.take (WrP.fold y.2.2.2))

end Go.Proofs.Ytdmlcnecildliaa
