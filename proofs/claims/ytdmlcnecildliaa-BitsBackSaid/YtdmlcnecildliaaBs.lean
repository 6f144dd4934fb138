/- Contracts of functions of the translation, each proved by a walk over its code; they are used by the texts that import this one. -/
import Derived.Test.YtdmlcnecildliaaBr
import Derived.Test.YtdmlcnecildliaaH
namespace Go.Proofs.Ytdmlcnecildliaa
open Go.SLA
set_option maxRecDepth 100000
set_option linter.unusedVariables false
set_option linter.unusedSimpArgs false
attribute [local irreducible] J L K QL Rg FSpec OpV OpX Rd Back

theorem numB_step (T : ByteArray) (k : Nat) (hk : k + 1 ≤ 4) : Value.int .u32 (IntKind.u32.wrap (((BitVec.ofInt IntKind.u32.bits ((numB T k * 2 ^ 8 : Nat) : Int) ||| BitVec.ofInt IntKind.u32.bits ((bn T k : Nat) : Int)).toNat : Nat) : Int)) = .int .u32 ((numB T (k + 1) : Nat) : Int) := by
  have h1 := numB_lt T (k + 1)
  have h2 : 256 ^ (k + 1) ≤ 256 ^ 4 := Nat.pow_le_pow_right (by decide) hk
  have h3 : (256 : Nat) ^ 4 = 4294967296 := by decide
  have h4 := bn_lt T k
  have h5 : numB T (k + 1) = numB T k * 2 ^ 8 + bn T k := rfl
  show Value.int .u32 (IntKind.u32.wrap (((BitVec.ofInt 32 ((numB T k * 2 ^ 8 : Nat) : Int) ||| BitVec.ofInt 32 ((bn T k : Nat) : Int)).toNat : Nat) : Int)) = _
  rw [BitVec.ofInt_natCast, BitVec.ofInt_natCast, BitVec.toNat_or, BitVec.toNat_ofNat, BitVec.toNat_ofNat, Nat.mod_eq_of_lt (by omega), Nat.mod_eq_of_lt (by omega), ← Nat.shiftLeft_eq, ← Nat.shiftLeft_add_eq_or_of_lt (by omega), Nat.shiftLeft_eq, ← h5, Go.IntWalk.u32_in _ (by omega)]
theorem numB_shl (T : ByteArray) (k : Nat) (hk : k + 1 ≤ 4) : IntKind.u32.wrap (((numB T k : Nat) : Int) * 2 ^ (min (Int.toNat 8) IntKind.u32.bits)) = ((numB T k * 2 ^ 8 : Nat) : Int) := by
  have h1 := numB_lt T (k + 1)
  have h2 : 256 ^ (k + 1) ≤ 256 ^ 4 := Nat.pow_le_pow_right (by decide) hk
  have h3 : (256 : Nat) ^ 4 = 4294967296 := by decide
  have h5 : numB T (k + 1) = numB T k * 2 ^ 8 + bn T k := rfl
  show IntKind.u32.wrap (((numB T k : Nat) : Int) * 256) = _
  rw [Go.IntWalk.u32_in _ (by omega)]
  omega
theorem textS_size (s : ByteArray) (e : Int) (c : Nat) : (textS s e c).1.size ≤ c := by
  unfold textS
  split
  · exact Nat.zero_le _
  · split
    · exact Nat.zero_le _
    · split
      · exact Nat.zero_le _
      · rw [Int.toNat_natCast, ByteArray.size_extract]
        omega
theorem textS_ok (s : ByteArray) (c : Nat) (h : c ≤ s.size) : textS s 0 c = (s.extract 0 c, s.extract c s.size, 0) := by
  unfold textS
  rw [if_neg (by decide), if_neg (by omega), if_neg (by omega), Int.toNat_natCast]

theorem number_spec (p : Nat) (s : ByteArray) (e : Int) (c : Nat) (hc : c ≤ 4) : FSpec Try.prog 51 #[.pointer (some (ad p 0)), .int .i64 (8 * c : Nat)] (cel p [.string s, .int .i64 e] 85) (fun _ : Unit => True) (fun _ => .int .u32 (numB (textS s e (c : Int)).1 (ByteArray.size (textS s e (c : Int)).1))) (fun _ => cel p [.string (textS s e (c : Int)).2.1, .int .i64 (textS s e (c : Int)).2.2] 85) := by
  have hts := textS_size s e c
  refine FSpec.enter' Try.func51 rfl Try.ntmps51 rfl fun σ F => ?_
  refine J_seq ?_
  refine J_region ?_
  refine L_v (opv_assign rfl) rfl ?_
  refine L_nil ?_
  refine K_then ?_
  refine J_seq ?_
  refine J_region ?_
  refine L_v (opv_assign rfl) rfl ?_
  refine L_nil ?_
  refine K_then ?_
  refine J_seq ?_
  refine J_seq ?_
  refine J_region ?_
  refine L_v (opv_move rfl) rfl ?_
  refine L_v (opv_move rfl) rfl ?_
  refine L_v ((opv_quoP rfl rfl (by omega)).as (v' := .int .i64 (c : Int)) (by rw [show ((8 * c : Nat) : Int) / 8 = (c : Int) by omega])) rfl ?_
  refine L_x rfl (opx_call0 (RText_any p s e (c : Int)) rfl rfl rfl) (fun _ _ => ?_)
  refine L_x rfl (opx_s2b rfl rfl) (fun y12 _ => ?_)
  first
    | refine L_v (opv_lenL rfl) rfl ?_
    | refine L_v (opv_lenS rfl) rfl ?_
  refine L_v (opv_move rfl) rfl ?_
  refine L_nil ?_
  refine K_then ?_
  refine J_block ?_
  refine J_loop (X := Nat) (fun k => [(5, .int .u32 (numB (textS s e (c : Int)).1 k)), (12, .slice (some (ad y12.1 0)) (ByteArray.size (textS s e (c : Int)).1) y12.2), (13, .int .i64 (ByteArray.size (textS s e (c : Int)).1)), (14, .int .i64 k)]) (fun k => (sep (byb y12.1 (textS s e (c : Int)).1 y12.2 5) (sep (cel p [.string (textS s e (c : Int)).2.1, .int .i64 (textS s e (c : Int)).2.2] 85) (F)))) (fun k => k ≤ ByteArray.size (textS s e (c : Int)).1) (fun k => ByteArray.size (textS s e (c : Int)).1 - k) (0) (Nat.zero_le _) ⟨rfl, rfl, rfl, rfl, trivial⟩ (Ent.refl _) (fun k hk => ?_)
  have hlt := bn_lt (textS s e (c : Int)).1 k
  refine J_seq ?_
  refine J_region ?_
  refine L_v (opv_lss rfl rfl) rfl ?_
  refine L_nil ?_
  refine K_then ?_
  refine J_seq ?_
  refine J_cond rfl (fun h1 => ?_) (fun h1 => ?_)
  · refine J_skip ?_
    refine K_then ?_
    refine J_seq ?_
    refine J_block ?_
    refine J_seq ?_
    refine J_region ?_
    first
      | refine L_v (opv_indexAddr rfl rfl (by omega)) rfl ?_
      | refine L_v (opv_indexAddrA rfl rfl (by omega)) rfl ?_
    refine L_v ((opv_load rfl (Rd.byb (s := (textS s e (c : Int)).1) (c := y12.2) (e := 5) (by omega))).as (v' := .int .u8 ((bn (textS s e (c : Int)).1 k : Nat) : Int)) (congrArg (fun j => Value.int .u8 (byt (textS s e (c : Int)).1 j)) (by omega))) rfl ?_
    refine L_v (opv_assign rfl) rfl ?_
    refine L_nil ?_
    refine K_then ?_
    refine J_region ?_
    refine L_v (opv_move rfl) rfl ?_
    refine L_v ((opv_shl rfl rfl (by omega)).as (congrArg (Value.int .u32) (numB_shl (textS s e (c : Int)).1 k (by omega)))) rfl ?_
    refine L_v (opv_move rfl) rfl ?_
    refine L_v (opv_convW rfl (Go.IntWalk.u32_in _ (by omega))) rfl ?_
    refine L_v ((opv_or rfl rfl).as (numB_step (textS s e (c : Int)).1 k (by omega))) rfl ?_
    refine L_v (opv_assign rfl) rfl ?_
    refine L_nil ?_
    refine K_block ?_
    refine K_then ?_
    refine J_region ?_
    first
      | refine L_v (opv_add64 rfl rfl (by omega)) rfl ?_
      | refine L_v (opv_addS rfl rfl (by omega)) rfl ?_
      | refine L_v (opv_add rfl rfl) rfl ?_
    refine L_v (opv_move rfl) rfl ?_
    refine L_nil ?_
    exact K_loop (k + 1) (by omega) (by omega) ⟨rfl, rfl, rfl, rfl, trivial⟩ Ent.take
  · refine J_exit ?_
    refine K_then_exit ?_
    refine K_then_exit ?_
    refine K_block_here ?_
    refine K_then ?_
    refine J_seq ?_
    refine J_region ?_
    refine L_v (opv_move rfl) rfl ?_
    refine L_v (opv_assign rfl) rfl ?_
    refine L_nil ?_
    refine K_then ?_
    refine J_ret ?_
    obtain rfl : k = ByteArray.size (textS s e (c : Int)).1 := by omega
    exact K_ret1 rfl rfl () trivial (rfl) Ent.take

end Go.Proofs.Ytdmlcnecildliaa
