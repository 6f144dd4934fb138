/- Contracts of functions of the translation, each proved by a walk over its code; they are used by the texts that import this one. -/
import Derived.Test.YtdmlcnecildliaaT
import Derived.Test.YtdmlcnecildliaaH
namespace Go.Proofs.Ytdmlcnecildliaa
open Go.SLA
set_option maxRecDepth 100000
set_option linter.unusedVariables false
set_option linter.unusedSimpArgs false
attribute [local irreducible] J L K QL Rg FSpec OpV OpX Rd Back

/-- The byte at i, as a number. -/
def bn (s : ByteArray) (i : Nat) : Nat := (s.data.toList.getD i 0).toNat
theorem byt_bn (s : ByteArray) (i : Nat) : byt s i = (bn s i : Int) := rfl
theorem bn_lt (s : ByteArray) (i : Nat) : bn s i < 256 := (s.data.toList.getD i 0).toNat_lt
/-- The sum of 16 bits of the first k bytes. -/
def wsum (s : ByteArray) : Nat → Nat
  | 0 => 0
  | k + 1 => wsum s k + bn s k * (if k % 2 = 0 then 256 else 1)
theorem wsum_le (s : ByteArray) : ∀ k, wsum s k ≤ 65280 * k
  | 0 => Nat.le_refl _
  | k + 1 => by
    have := wsum_le s k
    have := bn_lt s k
    rw [wsum]
    split <;> omega
/-- What runs over taken in again. -/
def fold (n : Nat) : Nat := if h : n ≤ 65535 then n else fold (n / 65536 + n % 65536)
termination_by n
decreasing_by omega
theorem fold_le (n : Nat) : fold n ≤ 65535 := by
  induction n using Nat.strongRecOn with
  | _ n ih =>
    rw [fold]
    split
    · assumption
    · exact ih _ (by omega)
theorem fold_a {n : Nat} (h : n ≤ 65535) : fold n = n := by rw [fold, dif_pos h]
theorem fold_b {n : Nat} (h : ¬ n ≤ 65535) : fold n = fold (n / 65536 + n % 65536) := by rw [fold, dif_neg h]
/-- Ones of a string. -/
def ones (s : ByteArray) : Nat := 65535 - fold (wsum s s.size)
theorem ru64 {a b : Int} (h : a = b) : Value.int .u64 a = .int .u64 b := by rw [h]
theorem mul256 (v k : Nat) (h : v < 256) : IntKind.u64.wrap ((v : Int) * 2 ^ (min (8 * (1 - ((k : Int) % 2))).toNat IntKind.u64.bits)) = ((v * (if k % 2 = 0 then 256 else 1) : Nat) : Int) := by
  have hb : IntKind.u64.bits = 64 := rfl
  rw [hb]
  by_cases hk : k % 2 = 0
  · have : (k : Int) % 2 = 0 := by omega
    rw [this, if_pos hk]
    show IntKind.u64.wrap ((v : Int) * 256) = _
    rw [Go.IntWalk.u64_in _ (by omega)]
    omega
  · have : (k : Int) % 2 = 1 := by omega
    rw [this, if_neg hk]
    show IntKind.u64.wrap ((v : Int) * 1) = _
    rw [Go.IntWalk.u64_in _ (by omega)]
    omega
theorem shr16 (m : Nat) : Value.int .u64 ((m : Int) / 2 ^ (min (Int.toNat 16) IntKind.u64.bits)) = .int .u64 ((m / 65536 : Nat) : Int) := by
  show Value.int .u64 ((m : Int) / 65536) = _
  rw [show ((m / 65536 : Nat) : Int) = (m : Int) / 65536 by omega]
theorem and16 (m : Nat) (h : m < 18446744073709551616) : Value.int .u64 (IntKind.u64.wrap (((BitVec.ofInt IntKind.u64.bits (m : Int) &&& BitVec.ofInt IntKind.u64.bits 65535).toNat : Nat) : Int)) = .int .u64 ((m % 65536 : Nat) : Int) := by
  have := low_bits (w := 64) (m := 16) (a := (m : Int)) (by decide) (by constructor; omega; show (m : Int) < 18446744073709551616; omega)
  have e : ((BitVec.ofInt IntKind.u64.bits (m : Int) &&& BitVec.ofInt IntKind.u64.bits 65535).toNat : Int) = (m : Int) % 65536 := this
  rw [e, Go.IntWalk.u64_in _ (by omega)]
  rw [show ((m % 65536 : Nat) : Int) = (m : Int) % 65536 by omega]
theorem compl16 (m : Nat) (h : m ≤ 65535) : Value.int .u16 (IntKind.u16.wrap (((BitVec.ofInt IntKind.u16.bits (if IntKind.u16.signed then -1 else IntKind.u16.max) ^^^ BitVec.ofInt IntKind.u16.bits (m : Int)).toNat : Nat) : Int)) = .int .u16 ((65535 - m : Nat) : Int) := by
  show Value.int .u16 (IntKind.u16.wrap (((BitVec.ofInt 16 65535 ^^^ BitVec.ofInt 16 (m : Int)).toNat : Nat) : Int)) = _
  have e : BitVec.ofInt 16 65535 = BitVec.allOnes 16 := by decide
  have e2 : BitVec.ofInt 16 (m : Int) = BitVec.ofNat 16 m := BitVec.ofInt_natCast ..
  rw [e, e2, BitVec.allOnes_xor, BitVec.toNat_not, BitVec.toNat_ofNat, Nat.mod_eq_of_lt (by omega)]
  rw [Go.IntWalk.u16_in _ (by omega)]

theorem Ones_spec (s : ByteArray) (hs : s.size ≤ 281474976710656) : FSpec Try.prog 15 #[.string s] (emp) (fun _ : Unit => True) (fun _ => .int .i64 (ones s)) (fun _ => emp) := by
  have hws := wsum_le s s.size
  refine FSpec.enter' Try.func15 rfl Try.ntmps15 rfl fun σ F => ?_
  refine J_seq ?_
  refine J_region ?_
  refine L_v (opv_assign rfl) rfl ?_
  refine L_nil ?_
  refine K_then ?_
  refine J_seq ?_
  refine J_region ?_
  refine L_v (opv_assign rfl) rfl ?_
  refine L_nil ?_
  refine K_then ?_
  refine J_seq ?_
  refine J_seq ?_
  refine J_region ?_
  refine L_v (opv_move rfl) rfl ?_
  first
    | refine L_v (opv_lenL rfl) rfl ?_
    | refine L_v (opv_lenS rfl) rfl ?_
  refine L_v (opv_move rfl) rfl ?_
  refine L_nil ?_
  refine K_then ?_
  refine J_block ?_
  refine J_loop (X := Nat) (fun k => [(0, .string s), (3, .int .u64 (wsum s k)), (6, .int .i64 s.size), (7, .int .i64 k)]) (fun k => (sep (emp) (F))) (fun k => k ≤ s.size) (fun k => s.size - k) (0) (Nat.zero_le _) ⟨rfl, rfl, rfl, rfl, trivial⟩ (Ent.refl _) (fun k hk => ?_)
  have hw := wsum_le s k
  have hb1 := bn_lt s k
  refine J_seq ?_
  refine J_region ?_
  refine L_v (opv_lss rfl rfl) rfl ?_
  refine L_nil ?_
  refine K_then ?_
  refine J_seq ?_
  refine J_cond rfl (fun h1 => ?_) (fun h1 => ?_)
  · refine J_skip ?_
    refine K_then ?_
    refine J_seq ?_
    refine J_block ?_
    refine J_seq ?_
    refine J_region ?_
    refine L_v (opv_move rfl) rfl ?_
    refine L_v (opv_assign rfl) rfl ?_
    refine L_nil ?_
    refine K_then ?_
    refine J_region ?_
    refine L_v (opv_move rfl) rfl ?_
    refine L_v (opv_move rfl) rfl ?_
    refine L_v (opv_move rfl) rfl ?_
    refine L_v (opv_indexS rfl rfl (by omega)) rfl ?_
    refine L_v (opv_convW rfl (Go.IntWalk.u64_in _ (by have h2 := byt_lt s (Int.toNat k); have h3 := byt_ge s (Int.toNat k); omega))) rfl ?_
    refine L_v (opv_move rfl) rfl ?_
    first
      | refine L_v (opv_remP rfl rfl (by omega)) rfl ?_
      | refine L_v (opv_rem rfl rfl (by omega)) rfl ?_
    first
      | refine L_v (opv_sub64 rfl rfl (by omega)) rfl ?_
      | refine L_v (opv_sub rfl rfl) rfl ?_
    first
      | refine L_v (opv_mul64 rfl rfl (by omega)) rfl ?_
      | refine L_v (opv_mul rfl rfl) rfl ?_
    refine L_v (opv_convW rfl (Go.IntWalk.u64_in _ (by omega))) rfl ?_
    refine L_v ((opv_shl rfl rfl (by omega)).as (ru64 (mul256 (bn s k) k hb1))) rfl ?_
    refine L_v ((opv_addW rfl rfl (Go.IntWalk.u64_in _ (by have h2 : bn s k * (if k % 2 = 0 then 256 else 1) ≤ 65280 := (by split <;> omega); omega))).as (v' := .int .u64 (wsum s (k + 1))) rfl) rfl ?_
    refine L_v (opv_assign rfl) rfl ?_
    refine L_nil ?_
    refine K_block ?_
    refine K_then ?_
    refine J_region ?_
    first
      | refine L_v (opv_add64 rfl rfl (by omega)) rfl ?_
      | refine L_v (opv_addS rfl rfl (by omega)) rfl ?_
      | refine L_v (opv_add rfl rfl) rfl ?_
    refine L_v (opv_move rfl) rfl ?_
    refine L_nil ?_
    exact K_loop (k + 1) (by omega) (by omega) ⟨rfl, rfl, rfl, rfl, trivial⟩ (Ent.refl _)
  · have he : k = s.size := by omega
    subst he
    refine J_exit ?_
    refine K_then_exit ?_
    refine K_then_exit ?_
    refine K_block_here ?_
    refine K_then ?_
    refine J_seq ?_
    refine J_block ?_
    refine J_loop (X := Nat) (fun m => [(3, .int .u64 m)]) (fun m => (sep (emp) (F))) (fun m => m < 18446744073709551616 ∧ fold m = fold (wsum s s.size)) (fun m => m) ((wsum s s.size)) ⟨by omega, rfl⟩ ⟨rfl, trivial⟩ (Ent.refl _) (fun m hm => ?_)
    obtain ⟨hm, hf⟩ := hm
    refine J_seq ?_
    refine J_seq ?_
    refine J_region ?_
    refine L_v (opv_move rfl) rfl ?_
    refine L_v ((opv_shrP rfl rfl (by omega)).as (shr16 m)) rfl ?_
    first
      | refine L_v (opv_neq rfl rfl) rfl ?_
      | refine L_v (opv_neqS rfl rfl) rfl ?_
      | refine L_v (opv_neqNil rfl rfl) rfl ?_
      | refine L_v (opv_neqB rfl rfl) rfl ?_
    refine L_nil ?_
    refine K_then ?_
    refine J_cond rfl (fun h2 => ?_) (fun h2 => ?_)
    · refine J_skip ?_
      refine K_then ?_
      refine J_block ?_
      refine J_region ?_
      refine L_v (opv_move rfl) rfl ?_
      refine L_v ((opv_shrP rfl rfl (by omega)).as (shr16 m)) rfl ?_
      refine L_v (opv_move rfl) rfl ?_
      refine L_v ((opv_and rfl rfl).as (and16 m hm)) rfl ?_
      refine L_v ((opv_addW rfl rfl (Go.IntWalk.u64_in _ (by omega))).as (v' := .int .u64 ((m / 65536 + m % 65536 : Nat) : Int)) rfl) rfl ?_
      refine L_v (opv_assign rfl) rfl ?_
      refine L_nil ?_
      refine K_block ?_
      exact K_loop (m / 65536 + m % 65536) ⟨by omega, by rw [← hf]; exact (fold_b (by omega)).symm⟩ (by omega) ⟨rfl, trivial⟩ (Ent.refl _)
    · refine J_exit ?_
      refine K_then_exit ?_
      refine K_then_exit ?_
      refine K_block_here ?_
      refine K_then ?_
      refine J_seq ?_
      refine J_region ?_
      refine L_v (opv_move rfl) rfl ?_
      first
        | refine L_v (opv_convW rfl (Go.IntWalk.u16_in _ (by omega))) rfl ?_
        | refine L_v (opv_convert rfl) rfl ?_
      refine L_v ((opv_compl rfl).as (compl16 m (by omega))) rfl ?_
      first
        | refine L_v (opv_convW rfl (Go.IntWalk.i64_in _ (by omega))) rfl ?_
        | refine L_v (opv_convert rfl) rfl ?_
      refine L_v (opv_assign rfl) rfl ?_
      refine L_nil ?_
      refine K_then ?_
      refine J_ret ?_
      have hfm : fold m = m := fold_a (by omega)
      exact K_ret1 rfl rfl () trivial (by rw [ones, ← hf, hfm]) (Ent.refl _)

end Go.Proofs.Ytdmlcnecildliaa
