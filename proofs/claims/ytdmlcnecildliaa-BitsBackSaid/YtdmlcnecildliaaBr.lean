/- Contracts of functions of the translation, each proved by a walk over its code; they are used by the texts that import this one. -/
import Derived.Test.YtdmlcnecildliaaBh
import Derived.Test.YtdmlcnecildliaaH
namespace Go.Proofs.Ytdmlcnecildliaa
open Go.SLA
set_option maxRecDepth 100000
set_option linter.unusedVariables false
set_option linter.unusedSimpArgs false
attribute [local irreducible] J L K QL Rg FSpec OpV OpX Rd Back
theorem Read_spec (s : ByteArray) : FSpec Try.prog 27 #[.string s] (emp) (fun p : Nat => True) (fun p => .pointer (some (ad p 0))) (fun p => cel p [.string s, .int .i64 0] 85) := by
  refine FSpec.enter' Try.func27 rfl Try.ntmps27 rfl fun σ F => ?_
  refine J_emp ?_
  refine J_seq ?_
  refine J_region ?_
  refine L_v (opv_assign rfl) rfl ?_
  refine L_nil ?_
  refine K_then ?_
  refine J_seq ?_
  refine J_region ?_
  refine L_v (opv_move rfl) rfl ?_
  refine L_v (opv_build rfl) rfl ?_
  refine L_x rfl (opx_box rfl rfl) (fun p _ => ?_)
  refine L_v (opv_assign rfl) rfl ?_
  refine L_nil ?_
  refine K_then ?_
  refine J_ret ?_
  exact K_ret1 rfl rfl p trivial rfl (Ent.refl _)

theorem Err_spec (p : Nat) (s : ByteArray) (e : Int) : FSpec Try.prog 31 #[.pointer (some (ad p 0))] (cel p [.string s, .int .i64 e] 85) (fun _ : Unit => True) (fun _ => .int .i64 e) (fun _ => cel p [.string s, .int .i64 e] 85) := by
  refine FSpec.enter' Try.func31 rfl Try.ntmps31 rfl fun σ F => ?_
  refine J_seq ?_
  refine J_region ?_
  refine L_v (opv_assign rfl) rfl ?_
  refine L_nil ?_
  refine K_then ?_
  refine J_seq ?_
  refine J_seq ?_
  refine J_region ?_
  refine L_v (opv_move rfl) rfl ?_
  first
    | refine L_v (opv_eql rfl rfl) rfl ?_
    | refine L_v (opv_eqlS rfl rfl) rfl ?_
    | refine L_v (opv_eqlNil rfl rfl) rfl ?_
    | refine L_v (opv_eqlB rfl rfl) rfl ?_
  refine L_nil ?_
  refine K_then ?_
  refine J_cond_false rfl ?_
  refine J_skip ?_
  refine K_then ?_
  refine J_seq ?_
  refine J_region ?_
  refine L_v (opv_move rfl) rfl ?_
  refine L_v (opv_nilCheck rfl) rfl ?_
  first
    | refine L_v (opv_fieldAddr0 rfl) rfl ?_
    | refine L_v (opv_fieldAddr rfl) rfl ?_
  refine L_v (opv_load rfl (Rd.look rfl)) rfl ?_
  refine L_v (opv_assign rfl) rfl ?_
  refine L_nil ?_
  refine K_then ?_
  refine J_ret ?_
  exact K_ret1 rfl rfl () trivial (rfl) (Ent.refl _)

theorem Err_nil  : FSpec Try.prog 31 #[.pointer none] (emp) (fun _ : Unit => True) (fun _ => .int .i64 2) (fun _ => emp) := by
  refine FSpec.enter' Try.func31 rfl Try.ntmps31 rfl fun σ F => ?_
  refine J_seq ?_
  refine J_region ?_
  refine L_v (opv_assign rfl) rfl ?_
  refine L_nil ?_
  refine K_then ?_
  refine J_seq ?_
  refine J_seq ?_
  refine J_region ?_
  refine L_v (opv_move rfl) rfl ?_
  first
    | refine L_v (opv_eql rfl rfl) rfl ?_
    | refine L_v (opv_eqlS rfl rfl) rfl ?_
    | refine L_v (opv_eqlNil rfl rfl) rfl ?_
    | refine L_v (opv_eqlB rfl rfl) rfl ?_
  refine L_nil ?_
  refine K_then ?_
  refine J_cond_true rfl ?_
  refine J_seq ?_
  refine J_region ?_
  refine L_v (opv_assign rfl) rfl ?_
  refine L_nil ?_
  refine K_then ?_
  refine J_ret ?_
  refine K_then_ret ?_
  exact K_ret1 rfl rfl () trivial (rfl) (Ent.refl _)

theorem Left_spec (p : Nat) (s : ByteArray) (e : Int) : FSpec Try.prog 30 #[.pointer (some (ad p 0))] (cel p [.string s, .int .i64 e] 85) (fun _ : Unit => True) (fun _ => .int .i64 s.size) (fun _ => cel p [.string s, .int .i64 e] 85) := by
  refine FSpec.enter' Try.func30 rfl Try.ntmps30 rfl fun σ F => ?_
  refine J_seq ?_
  refine J_region ?_
  refine L_v (opv_assign rfl) rfl ?_
  refine L_nil ?_
  refine K_then ?_
  refine J_seq ?_
  refine J_seq ?_
  refine J_region ?_
  refine L_v (opv_move rfl) rfl ?_
  first
    | refine L_v (opv_eql rfl rfl) rfl ?_
    | refine L_v (opv_eqlS rfl rfl) rfl ?_
    | refine L_v (opv_eqlNil rfl rfl) rfl ?_
    | refine L_v (opv_eqlB rfl rfl) rfl ?_
  refine L_nil ?_
  refine K_then ?_
  refine J_cond_false rfl ?_
  refine J_skip ?_
  refine K_then ?_
  refine J_seq ?_
  refine J_region ?_
  refine L_v (opv_move rfl) rfl ?_
  refine L_v (opv_nilCheck rfl) rfl ?_
  first
    | refine L_v (opv_fieldAddr0 rfl) rfl ?_
    | refine L_v (opv_fieldAddr rfl) rfl ?_
  refine L_v (opv_load rfl (Rd.look rfl)) rfl ?_
  first
    | refine L_v (opv_lenL rfl) rfl ?_
    | refine L_v (opv_lenS rfl) rfl ?_
  refine L_v (opv_assign rfl) rfl ?_
  refine L_nil ?_
  refine K_then ?_
  refine J_ret ?_
  exact K_ret1 rfl rfl () trivial (rfl) (Ent.refl _)

theorem Left_nil  : FSpec Try.prog 30 #[.pointer none] (emp) (fun _ : Unit => True) (fun _ => .int .i64 0) (fun _ => emp) := by
  refine FSpec.enter' Try.func30 rfl Try.ntmps30 rfl fun σ F => ?_
  refine J_seq ?_
  refine J_region ?_
  refine L_v (opv_assign rfl) rfl ?_
  refine L_nil ?_
  refine K_then ?_
  refine J_seq ?_
  refine J_seq ?_
  refine J_region ?_
  refine L_v (opv_move rfl) rfl ?_
  first
    | refine L_v (opv_eql rfl rfl) rfl ?_
    | refine L_v (opv_eqlS rfl rfl) rfl ?_
    | refine L_v (opv_eqlNil rfl rfl) rfl ?_
    | refine L_v (opv_eqlB rfl rfl) rfl ?_
  refine L_nil ?_
  refine K_then ?_
  refine J_cond_true rfl ?_
  refine J_seq ?_
  refine J_region ?_
  refine L_v (opv_assign rfl) rfl ?_
  refine L_nil ?_
  refine K_then ?_
  refine J_ret ?_
  refine K_then_ret ?_
  exact K_ret1 rfl rfl () trivial (rfl) (Ent.refl _)

theorem RText_nil (m : Int) : FSpec Try.prog 28 #[.pointer none, .int .i64 m] (emp) (fun _ : Unit => True) (fun _ => .string ByteArray.empty) (fun _ => emp) := by
  refine FSpec.enter' Try.func28 rfl Try.ntmps28 rfl fun σ F => ?_
  refine J_seq ?_
  refine J_region ?_
  refine L_v (opv_assign rfl) rfl ?_
  refine L_nil ?_
  refine K_then ?_
  refine J_seq ?_
  refine J_seq ?_
  refine J_region ?_
  refine L_v (opv_move rfl) rfl ?_
  refine L_x rfl (opx_call0 (Err_nil) rfl rfl rfl) (fun _ _ => ?_)
  refine L_emp ?_
  refine L_v ((opv_neq rfl rfl).bool_t (by decide)) rfl ?_
  refine L_nil ?_
  refine K_then ?_
  refine J_cond_true rfl ?_
  refine J_seq ?_
  refine J_region ?_
  refine L_v (opv_assign rfl) rfl ?_
  refine L_nil ?_
  refine K_then ?_
  refine J_ret ?_
  refine K_then_ret ?_
  exact K_ret1 rfl rfl () trivial (rfl) (Ent.refl _)

theorem RText_err (p : Nat) (s : ByteArray) (e m : Int) (he : e ≠ 0) : FSpec Try.prog 28 #[.pointer (some (ad p 0)), .int .i64 m] (cel p [.string s, .int .i64 e] 85) (fun _ : Unit => True) (fun _ => .string ByteArray.empty) (fun _ => cel p [.string s, .int .i64 e] 85) := by
  refine FSpec.enter' Try.func28 rfl Try.ntmps28 rfl fun σ F => ?_
  refine J_seq ?_
  refine J_region ?_
  refine L_v (opv_assign rfl) rfl ?_
  refine L_nil ?_
  refine K_then ?_
  refine J_seq ?_
  refine J_seq ?_
  refine J_region ?_
  refine L_v (opv_move rfl) rfl ?_
  refine L_x rfl (opx_call0 (Err_spec p s e) rfl rfl rfl) (fun _ _ => ?_)
  refine L_v ((opv_neq rfl rfl).bool_t he) rfl ?_
  refine L_nil ?_
  refine K_then ?_
  refine J_cond_true rfl ?_
  refine J_seq ?_
  refine J_region ?_
  refine L_v (opv_assign rfl) rfl ?_
  refine L_nil ?_
  refine K_then ?_
  refine J_ret ?_
  refine K_then_ret ?_
  exact K_ret1 rfl rfl () trivial (rfl) (Ent.refl _)

theorem RText_neg (p : Nat) (s : ByteArray) (m : Int) (h : m < 0) : FSpec Try.prog 28 #[.pointer (some (ad p 0)), .int .i64 m] (cel p [.string s, .int .i64 0] 85) (fun _ : Unit => True) (fun _ => .string ByteArray.empty) (fun _ => cel p [.string s, .int .i64 1] 85) := by
  refine FSpec.enter' Try.func28 rfl Try.ntmps28 rfl fun σ F => ?_
  refine J_seq ?_
  refine J_region ?_
  refine L_v (opv_assign rfl) rfl ?_
  refine L_nil ?_
  refine K_then ?_
  refine J_seq ?_
  refine J_seq ?_
  refine J_region ?_
  refine L_v (opv_move rfl) rfl ?_
  refine L_x rfl (opx_call0 (Err_spec p s 0) rfl rfl rfl) (fun _ _ => ?_)
  refine L_v ((opv_neq rfl rfl).bool_f (by decide)) rfl ?_
  refine L_nil ?_
  refine K_then ?_
  refine J_cond_false rfl ?_
  refine J_skip ?_
  refine K_then ?_
  refine J_seq ?_
  refine J_block ?_
  refine J_seq ?_
  refine J_region ?_
  refine L_v (opv_move rfl) rfl ?_
  refine L_v ((opv_lss rfl rfl).bool_t h) rfl ?_
  refine L_v (opv_assign rfl) rfl ?_
  refine L_nil ?_
  refine K_then ?_
  refine J_cond_true rfl ?_
  refine J_seq ?_
  refine J_region ?_
  refine L_v (opv_move rfl) rfl ?_
  refine L_v (opv_nilCheck rfl) rfl ?_
  first
    | refine L_v (opv_fieldAddr0 rfl) rfl ?_
    | refine L_v (opv_fieldAddr rfl) rfl ?_
  refine L_x rfl (opx_store rfl rfl rfl (by simp [Value.oneCell'])) (fun _ _ => ?_)
  refine L_nil ?_
  refine K_then ?_
  refine J_seq ?_
  refine J_region ?_
  refine L_v (opv_assign rfl) rfl ?_
  refine L_nil ?_
  refine K_then ?_
  refine J_ret ?_
  refine K_block_ret ?_
  refine K_then_ret ?_
  exact K_ret1 rfl rfl () trivial (rfl) (Ent.refl _)

theorem RText_short (p : Nat) (s : ByteArray) (m : Int) (h : (s.size : Int) < m) : FSpec Try.prog 28 #[.pointer (some (ad p 0)), .int .i64 m] (cel p [.string s, .int .i64 0] 85) (fun _ : Unit => True) (fun _ => .string ByteArray.empty) (fun _ => cel p [.string s, .int .i64 10] 85) := by
  refine FSpec.enter' Try.func28 rfl Try.ntmps28 rfl fun σ F => ?_
  refine J_seq ?_
  refine J_region ?_
  refine L_v (opv_assign rfl) rfl ?_
  refine L_nil ?_
  refine K_then ?_
  refine J_seq ?_
  refine J_seq ?_
  refine J_region ?_
  refine L_v (opv_move rfl) rfl ?_
  refine L_x rfl (opx_call0 (Err_spec p s 0) rfl rfl rfl) (fun _ _ => ?_)
  refine L_v ((opv_neq rfl rfl).bool_f (by decide)) rfl ?_
  refine L_nil ?_
  refine K_then ?_
  refine J_cond_false rfl ?_
  refine J_skip ?_
  refine K_then ?_
  refine J_seq ?_
  refine J_block ?_
  refine J_seq ?_
  refine J_region ?_
  refine L_v (opv_move rfl) rfl ?_
  refine L_v ((opv_lss rfl rfl).bool_f (by omega)) rfl ?_
  refine L_v (opv_assign rfl) rfl ?_
  refine L_nil ?_
  refine K_then ?_
  refine J_cond_false rfl ?_
  refine J_seq ?_
  refine J_region ?_
  refine L_v (opv_move rfl) rfl ?_
  refine L_v (opv_move rfl) rfl ?_
  refine L_v (opv_nilCheck rfl) rfl ?_
  first
    | refine L_v (opv_fieldAddr0 rfl) rfl ?_
    | refine L_v (opv_fieldAddr rfl) rfl ?_
  refine L_v (opv_load rfl (Rd.look rfl)) rfl ?_
  first
    | refine L_v (opv_lenL rfl) rfl ?_
    | refine L_v (opv_lenS rfl) rfl ?_
  refine L_v ((opv_gtr rfl rfl).bool_t h) rfl ?_
  refine L_v (opv_assign rfl) rfl ?_
  refine L_nil ?_
  refine K_then ?_
  refine J_cond_true rfl ?_
  refine J_seq ?_
  refine J_region ?_
  refine L_v (opv_move rfl) rfl ?_
  refine L_v (opv_nilCheck rfl) rfl ?_
  first
    | refine L_v (opv_fieldAddr0 rfl) rfl ?_
    | refine L_v (opv_fieldAddr rfl) rfl ?_
  refine L_x rfl (opx_store rfl rfl rfl (by simp [Value.oneCell'])) (fun _ _ => ?_)
  refine L_nil ?_
  refine K_then ?_
  refine J_seq ?_
  refine J_region ?_
  refine L_v (opv_assign rfl) rfl ?_
  refine L_nil ?_
  refine K_then ?_
  refine J_ret ?_
  refine K_block_ret ?_
  refine K_then_ret ?_
  exact K_ret1 rfl rfl () trivial (rfl) (Ent.refl _)

theorem RText_ok (p : Nat) (s : ByteArray) (m : Nat) (h : m ≤ s.size) : FSpec Try.prog 28 #[.pointer (some (ad p 0)), .int .i64 m] (cel p [.string s, .int .i64 0] 85) (fun _ : Unit => True) (fun _ => .string (s.extract 0 m)) (fun _ => cel p [.string (s.extract m s.size), .int .i64 0] 85) := by
  refine FSpec.enter' Try.func28 rfl Try.ntmps28 rfl fun σ F => ?_
  refine J_seq ?_
  refine J_region ?_
  refine L_v (opv_assign rfl) rfl ?_
  refine L_nil ?_
  refine K_then ?_
  refine J_seq ?_
  refine J_seq ?_
  refine J_region ?_
  refine L_v (opv_move rfl) rfl ?_
  refine L_x rfl (opx_call0 (Err_spec p s 0) rfl rfl rfl) (fun _ _ => ?_)
  refine L_v ((opv_neq rfl rfl).bool_f (by decide)) rfl ?_
  refine L_nil ?_
  refine K_then ?_
  refine J_cond_false rfl ?_
  refine J_skip ?_
  refine K_then ?_
  refine J_seq ?_
  refine J_block ?_
  refine J_seq ?_
  refine J_region ?_
  refine L_v (opv_move rfl) rfl ?_
  refine L_v ((opv_lss rfl rfl).bool_f (by omega)) rfl ?_
  refine L_v (opv_assign rfl) rfl ?_
  refine L_nil ?_
  refine K_then ?_
  refine J_cond_false rfl ?_
  refine J_seq ?_
  refine J_region ?_
  refine L_v (opv_move rfl) rfl ?_
  refine L_v (opv_move rfl) rfl ?_
  refine L_v (opv_nilCheck rfl) rfl ?_
  first
    | refine L_v (opv_fieldAddr0 rfl) rfl ?_
    | refine L_v (opv_fieldAddr rfl) rfl ?_
  refine L_v (opv_load rfl (Rd.look rfl)) rfl ?_
  first
    | refine L_v (opv_lenL rfl) rfl ?_
    | refine L_v (opv_lenS rfl) rfl ?_
  refine L_v ((opv_gtr rfl rfl).bool_f (by omega)) rfl ?_
  refine L_v (opv_assign rfl) rfl ?_
  refine L_nil ?_
  refine K_then ?_
  refine J_cond_false rfl ?_
  refine J_skip ?_
  refine K_block ?_
  refine K_then ?_
  refine J_seq ?_
  refine J_region ?_
  refine L_v (opv_move rfl) rfl ?_
  refine L_v (opv_nilCheck rfl) rfl ?_
  first
    | refine L_v (opv_fieldAddr0 rfl) rfl ?_
    | refine L_v (opv_fieldAddr rfl) rfl ?_
  refine L_v (opv_load rfl (Rd.look rfl)) rfl ?_
  refine L_v (opv_move rfl) rfl ?_
  refine L_v ((opv_sliceShi rfl rfl (by omega)).as (congrArg (fun k => Value.string (s.extract 0 k)) (Int.toNat_natCast m))) rfl ?_
  refine L_v (opv_assign rfl) rfl ?_
  refine L_nil ?_
  refine K_then ?_
  refine J_seq ?_
  refine J_region ?_
  refine L_v (opv_move rfl) rfl ?_
  refine L_v (opv_move rfl) rfl ?_
  refine L_v (opv_nilCheck rfl) rfl ?_
  first
    | refine L_v (opv_fieldAddr0 rfl) rfl ?_
    | refine L_v (opv_fieldAddr rfl) rfl ?_
  refine L_v (opv_load rfl (Rd.look rfl)) rfl ?_
  refine L_v (opv_move rfl) rfl ?_
  refine L_v ((opv_sliceSlo rfl rfl (by omega)).as (congrArg (fun k => Value.string (s.extract k s.size)) (Int.toNat_natCast m))) rfl ?_
  refine L_v (opv_nilCheck rfl) rfl ?_
  first
    | refine L_v (opv_fieldAddr0 rfl) rfl ?_
    | refine L_v (opv_fieldAddr rfl) rfl ?_
  refine L_x rfl (opx_store rfl rfl rfl (by simp [Value.oneCell'])) (fun _ _ => ?_)
  refine L_nil ?_
  refine K_then ?_
  refine J_seq ?_
  refine J_region ?_
  refine L_v (opv_move rfl) rfl ?_
  refine L_v (opv_assign rfl) rfl ?_
  refine L_nil ?_
  refine K_then ?_
  refine J_ret ?_
  exact K_ret1 rfl rfl () trivial (rfl) Ent.take


/-- The number that bytes are, the highest ones first. -/
def numB (s : ByteArray) : Nat → Nat
  | 0 => 0
  | k + 1 => numB s k * 256 + bn s k
theorem numB_lt (s : ByteArray) : ∀ k, numB s k < 256 ^ k
  | 0 => Nat.one_pos
  | k + 1 => by
    have h1 := numB_lt s k
    have h2 := bn_lt s k
    rw [numB, Nat.pow_succ]
    omega
/-- What a reader answers to a Text, and what it is then. -/
def textS (s : ByteArray) (e m : Int) : ByteArray × ByteArray × Int :=
  if e ≠ 0 then (ByteArray.empty, s, e) else if m < 0 then (ByteArray.empty, s, 1) else if (s.size : Int) < m then (ByteArray.empty, s, 10) else (s.extract 0 m.toNat, s.extract m.toNat s.size, 0)
theorem RText_any (p : Nat) (s : ByteArray) (e m : Int) : FSpec Try.prog 28 #[.pointer (some (ad p 0)), .int .i64 m] (cel p [.string s, .int .i64 e] 85) (fun _ : Unit => True) (fun _ => .string (textS s e m).1) (fun _ => cel p [.string (textS s e m).2.1, .int .i64 (textS s e m).2.2] 85) := by
  unfold textS
  by_cases he : e ≠ 0
  · rw [if_pos he]
    exact RText_err p s e m he
  · have he : e = 0 := Classical.not_not.1 he
    subst he
    rw [if_neg (by decide)]
    by_cases h1 : m < 0
    · rw [if_pos h1]
      exact RText_neg p s m h1
    · rw [if_neg h1]
      by_cases h2 : (s.size : Int) < m
      · rw [if_pos h2]
        exact RText_short p s m h2
      · rw [if_neg h2]
        obtain ⟨k, rfl⟩ : ∃ k : Nat, m = k := ⟨m.toNat, by omega⟩
        rw [Int.toNat_natCast]
        exact RText_ok p s k (by omega)

end Go.Proofs.Ytdmlcnecildliaa
