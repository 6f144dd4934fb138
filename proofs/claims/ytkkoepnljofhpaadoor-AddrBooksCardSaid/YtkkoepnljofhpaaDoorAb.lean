/- Contracts of the functions of the package addr that lay addresses, and of the document's, each proved by a walk over its code; they are used by the texts that import this one. -/
import Derived.Test.YtkkoepnljofhpaaDoorAa
import Derived.Test.YtkkoepnljofhpaaDoorH
namespace Go.Proofs.YtkkoepnljofhpaaDoor
open Go.SLA
set_option maxRecDepth 100000
set_option linter.unusedVariables false
set_option linter.unusedSimpArgs false
attribute [local irreducible] J L K QL Rg FSpec OpV OpX Rd Back

theorem shk {k : Nat} (h : k ≤ 1) : Value.int .u8 (IntKind.u8.wrap ((32 : Int) * 2 ^ (min (Int.toNat (k : Int)) IntKind.u8.bits))) = .int .u8 ((32 * (k + 1) : Nat) : Int) := by
  rcases (show k = 0 ∨ k = 1 by omega) with rfl | rfl <;> rfl

theorem Source_ok (n k : Nat) (h : n ≤ 4095) (hk : k ≤ 1) : FSpec Tryd.prog 13 #[.agg [.int .i64 (n : Nat), .int .i64 (k : Nat)].toArray] (emp) (fun _ : Unit => True) (fun _ => .tuple #[.agg #[.int .u8 2, .int .u8 0, .int .u8 0, .int .u8 ((n / 256 % 256 : Nat) : Int), .int .u8 ((n % 256 : Nat) : Int), .int .u8 ((32 * (k + 1) : Nat) : Int)], .int .i64 0]) (fun _ => emp) := by
  refine FSpec.enter' Tryd.func13 rfl Tryd.ntmps13 rfl fun σ F => ?_
  refine J_emp ?_
  refine J_seq ?_
  refine J_region ?_
  refine L_x rfl (opx_box (l := [.int .i64 (n : Nat), .int .i64 (k : Nat)]) rfl rfl) (fun b1 _ => ?_)
  refine L_x rfl (opx_alloc rfl) (fun b2 _ => ?_)
  refine L_v (opv_assign rfl) rfl ?_
  refine L_nil ?_
  refine K_then ?_
  refine J_seq ?_
  refine J_seq ?_
  refine J_region ?_
  first
    | refine L_v (opv_fieldAddr0 rfl) rfl ?_
    | refine L_v (opv_fieldAddr rfl) rfl ?_
  refine L_v (opv_load rfl (Rd.look rfl)) rfl ?_
  refine L_v ((opv_lss rfl rfl).bool_f (by omega)) rfl ?_
  refine L_v (opv_move rfl) rfl ?_
  refine L_gon rfl rfl rfl ?_
  first
    | refine L_v (opv_fieldAddr0 rfl) rfl ?_
    | refine L_v (opv_fieldAddr rfl) rfl ?_
  refine L_gon rfl rfl rfl ?_
  refine L_v (opv_load rfl (Rd.look rfl)) rfl ?_
  refine L_gon rfl rfl rfl ?_
  refine L_v ((opv_gtr rfl rfl).bool_f (by omega)) rfl ?_
  first
    | refine L_v (opv_pick_tt rfl rfl) rfl ?_
    | refine L_v (opv_pick_ff rfl rfl) rfl ?_
    | refine L_v (opv_pick rfl rfl rfl) rfl ?_
  refine L_v (opv_move rfl) rfl ?_
  refine L_gon rfl rfl rfl ?_
  first
    | refine L_v (opv_fieldAddr0 rfl) rfl ?_
    | refine L_v (opv_fieldAddr rfl) rfl ?_
  refine L_gon rfl rfl rfl ?_
  refine L_v (opv_load rfl (Rd.look rfl)) rfl ?_
  refine L_gon rfl rfl rfl ?_
  refine L_v ((opv_lss rfl rfl).bool_f (by omega)) rfl ?_
  first
    | refine L_v (opv_pick_tt rfl rfl) rfl ?_
    | refine L_v (opv_pick_ff rfl rfl) rfl ?_
    | refine L_v (opv_pick rfl rfl rfl) rfl ?_
  refine L_v (opv_move rfl) rfl ?_
  refine L_gon rfl rfl rfl ?_
  first
    | refine L_v (opv_fieldAddr0 rfl) rfl ?_
    | refine L_v (opv_fieldAddr rfl) rfl ?_
  refine L_gon rfl rfl rfl ?_
  refine L_v (opv_load rfl (Rd.look rfl)) rfl ?_
  refine L_gon rfl rfl rfl ?_
  refine L_v ((opv_gtr rfl rfl).bool_f (by omega)) rfl ?_
  first
    | refine L_v (opv_pick_tt rfl rfl) rfl ?_
    | refine L_v (opv_pick_ff rfl rfl) rfl ?_
    | refine L_v (opv_pick rfl rfl rfl) rfl ?_
  refine L_nil ?_
  refine K_then ?_
  refine J_cond_false rfl ?_
  refine J_skip ?_
  refine K_then ?_
  refine J_seq ?_
  refine J_region ?_
  first
    | refine L_v (opv_fieldAddr0 rfl) rfl ?_
    | refine L_v (opv_fieldAddr rfl) rfl ?_
  refine L_v (opv_load rfl (Rd.look rfl)) rfl ?_
  refine L_v (opv_convW rfl (Go.IntWalk.u64_in _ (by omega))) rfl ?_
  refine L_v ((opv_shl rfl rfl (by omega)).as (shk hk)) rfl ?_
  refine L_v (opv_buildA (pl := [(0, 1), (1, 1), (2, 1), (3, 1), (4, 1), (5, 1)]) rfl rfl) rfl ?_
  refine L_x rfl (opx_alloc rfl) (fun b4 _ => ?_)
  refine L_x rfl (opx_store rfl rfl rfl (by simp [Value.oneCell'])) (fun _ _ => ?_)
  refine L_nil ?_
  refine K_then ?_
  refine J_seq ?_
  refine J_region ?_
  first
    | refine L_v (opv_fieldAddr0 rfl) rfl ?_
    | refine L_v (opv_fieldAddr rfl) rfl ?_
  refine L_v (opv_load rfl (Rd.look rfl)) rfl ?_
  refine L_x rfl (opx_call0 (two_spec n (by omega)) rfl rfl rfl) (fun _ _ => ?_)
  refine L_emp ?_
  refine L_v (opv_move rfl) rfl ?_
  refine L_v (opv_extract (v := .int .u8 ((n / 256 % 256 : Nat) : Int)) rfl rfl) rfl ?_
  refine L_v (opv_extract (v := .int .u8 ((n % 256 : Nat) : Int)) rfl rfl) rfl ?_
  refine L_v ((opv_indexAddrA rfl rfl (by decide)).as (v' := .pointer (some (ad b4 3))) rfl) rfl ?_
  refine L_x rfl (opx_store rfl rfl rfl (by simp [Value.oneCell'])) (fun _ _ => ?_)
  refine L_v ((opv_indexAddrA rfl rfl (by decide)).as (v' := .pointer (some (ad b4 4))) rfl) rfl ?_
  refine L_x rfl (opx_store rfl rfl rfl (by simp [Value.oneCell'])) (fun _ _ => ?_)
  refine L_nil ?_
  refine K_then ?_
  refine J_seq ?_
  refine J_region ?_
  refine L_v (opv_loadS rfl) rfl ?_
  refine L_x rfl (opx_store rfl rfl rfl (by simp [Value.oneCell'])) (fun _ _ => ?_)
  refine L_v (opv_assign rfl) rfl ?_
  refine L_nil ?_
  refine K_then ?_
  refine J_ret ?_
  exact K_ret2c rfl rfl rfl rfl () trivial rfl Ent.take

theorem Source_bad (n k : Int) (h : ¬ (0 ≤ n ∧ n ≤ 4095 ∧ 0 ≤ k ∧ k ≤ 1)) : FSpec Tryd.prog 13 #[.agg [.int .i64 n, .int .i64 k].toArray] (emp) (fun _ : Unit => True) (fun _ => .tuple #[.agg #[.int .u8 0, .int .u8 0, .int .u8 0, .int .u8 0, .int .u8 0, .int .u8 0], .int .i64 1]) (fun _ => emp) := by
  refine FSpec.enter' Tryd.func13 rfl Tryd.ntmps13 rfl fun σ F => ?_
  refine J_emp ?_
  refine J_seq ?_
  refine J_region ?_
  refine L_x rfl (opx_box (l := [.int .i64 n, .int .i64 k]) rfl rfl) (fun b1 _ => ?_)
  refine L_x rfl (opx_alloc rfl) (fun b2 _ => ?_)
  refine L_v (opv_assign rfl) rfl ?_
  refine L_nil ?_
  refine K_then ?_
  refine J_seq ?_
  refine J_seq ?_
  refine J_region ?_
  first
    | refine L_v (opv_fieldAddr0 rfl) rfl ?_
    | refine L_v (opv_fieldAddr rfl) rfl ?_
  refine L_v (opv_load rfl (Rd.look rfl)) rfl ?_
  refine L_v (opv_lss rfl rfl) rfl ?_
  refine L_v (opv_move rfl) rfl ?_
  refine L_gf rfl rfl (fun h1 => ?_) (fun h1 => ?_) (fun _ h => by cases h; rfl)
  · first
      | refine L_v (opv_fieldAddr0 rfl) rfl ?_
      | refine L_v (opv_fieldAddr rfl) rfl ?_
    refine L_gf_on h1 rfl rfl ?_
    refine L_v (opv_load rfl (Rd.look rfl)) rfl ?_
    refine L_gf_on h1 rfl rfl ?_
    refine L_v (opv_gtr rfl rfl) rfl ?_
    refine L_v (opv_pick_f rfl h1 rfl) rfl ?_
    refine L_v (opv_move rfl) rfl ?_
    refine L_gf rfl rfl (fun h2 => ?_) (fun h2 => ?_) (fun _ h => by cases h; rfl)
    · first
        | refine L_v (opv_fieldAddr0 rfl) rfl ?_
        | refine L_v (opv_fieldAddr rfl) rfl ?_
      refine L_gf_on h2 rfl rfl ?_
      refine L_v (opv_load rfl (Rd.look rfl)) rfl ?_
      refine L_gf_on h2 rfl rfl ?_
      refine L_v (opv_lss rfl rfl) rfl ?_
      refine L_v (opv_pick_f rfl h2 rfl) rfl ?_
      refine L_v (opv_move rfl) rfl ?_
      refine L_gf rfl rfl (fun h3 => ?_) (fun h3 => ?_) (fun _ h => by cases h; rfl)
      · first
          | refine L_v (opv_fieldAddr0 rfl) rfl ?_
          | refine L_v (opv_fieldAddr rfl) rfl ?_
        refine L_gf_on h3 rfl rfl ?_
        refine L_v (opv_load rfl (Rd.look rfl)) rfl ?_
        refine L_gf_on h3 rfl rfl ?_
        refine L_v (opv_gtr rfl rfl) rfl ?_
        refine L_v (opv_pick_f rfl h3 rfl) rfl ?_
        refine L_nil ?_
        refine K_then ?_
        refine J_cond rfl (fun h4 => ?_) (fun h4 => by exfalso; omega)
        refine J_seq ?_
        refine J_region ?_
        refine L_v (opv_buildA (pl := [(0, 1), (1, 1), (2, 1), (3, 1), (4, 1), (5, 1)]) rfl rfl) rfl ?_
        refine L_x rfl (opx_store rfl rfl rfl (by simp [Value.oneCell'])) (fun _ _ => ?_)
        refine L_v (opv_assign rfl) rfl ?_
        refine L_nil ?_
        refine K_then ?_
        refine J_ret ?_
        refine K_then_ret ?_
        exact K_ret2c rfl rfl rfl rfl () trivial rfl Ent.take
      · refine L_gf_off h3 rfl rfl ?_ (fun _ h => by cases h; rfl)
        refine L_gf_off h3 rfl rfl ?_ (fun _ h => by cases h; rfl)
        refine L_v (opv_pick_t rfl h3 rfl) rfl ?_
        refine L_nil ?_
        refine K_then ?_
        refine J_cond_true rfl ?_
        refine J_seq ?_
        refine J_region ?_
        refine L_v (opv_buildA (pl := [(0, 1), (1, 1), (2, 1), (3, 1), (4, 1), (5, 1)]) rfl rfl) rfl ?_
        refine L_x rfl (opx_store rfl rfl rfl (by simp [Value.oneCell'])) (fun _ _ => ?_)
        refine L_v (opv_assign rfl) rfl ?_
        refine L_nil ?_
        refine K_then ?_
        refine J_ret ?_
        refine K_then_ret ?_
        exact K_ret2c rfl rfl rfl rfl () trivial rfl Ent.take
    · refine L_gf_off h2 rfl rfl ?_ (fun _ h => by cases h; rfl)
      refine L_gf_off h2 rfl rfl ?_ (fun _ h => by cases h; rfl)
      refine L_v (opv_pick_t rfl h2 rfl) rfl ?_
      refine L_v (opv_move rfl) rfl ?_
      refine L_gskip rfl rfl rfl ?_ (fun _ h => by cases h; rfl)
      refine L_gskip rfl rfl rfl ?_ (fun _ h => by cases h; rfl)
      refine L_gskip rfl rfl rfl ?_ (fun _ h => by cases h; rfl)
      first
        | refine L_v (opv_pick_tt rfl rfl) rfl ?_
        | refine L_v (opv_pick_ff rfl rfl) rfl ?_
        | refine L_v (opv_pick rfl rfl rfl) rfl ?_
      refine L_nil ?_
      refine K_then ?_
      refine J_cond_true rfl ?_
      refine J_seq ?_
      refine J_region ?_
      refine L_v (opv_buildA (pl := [(0, 1), (1, 1), (2, 1), (3, 1), (4, 1), (5, 1)]) rfl rfl) rfl ?_
      refine L_x rfl (opx_store rfl rfl rfl (by simp [Value.oneCell'])) (fun _ _ => ?_)
      refine L_v (opv_assign rfl) rfl ?_
      refine L_nil ?_
      refine K_then ?_
      refine J_ret ?_
      refine K_then_ret ?_
      exact K_ret2c rfl rfl rfl rfl () trivial rfl Ent.take
  · refine L_gf_off h1 rfl rfl ?_ (fun _ h => by cases h; rfl)
    refine L_gf_off h1 rfl rfl ?_ (fun _ h => by cases h; rfl)
    refine L_v (opv_pick_t rfl h1 rfl) rfl ?_
    refine L_v (opv_move rfl) rfl ?_
    refine L_gskip rfl rfl rfl ?_ (fun _ h => by cases h; rfl)
    refine L_gskip rfl rfl rfl ?_ (fun _ h => by cases h; rfl)
    refine L_gskip rfl rfl rfl ?_ (fun _ h => by cases h; rfl)
    first
      | refine L_v (opv_pick_tt rfl rfl) rfl ?_
      | refine L_v (opv_pick_ff rfl rfl) rfl ?_
      | refine L_v (opv_pick rfl rfl rfl) rfl ?_
    refine L_v (opv_move rfl) rfl ?_
    refine L_gskip rfl rfl rfl ?_ (fun _ h => by cases h; rfl)
    refine L_gskip rfl rfl rfl ?_ (fun _ h => by cases h; rfl)
    refine L_gskip rfl rfl rfl ?_ (fun _ h => by cases h; rfl)
    first
      | refine L_v (opv_pick_tt rfl rfl) rfl ?_
      | refine L_v (opv_pick_ff rfl rfl) rfl ?_
      | refine L_v (opv_pick rfl rfl rfl) rfl ?_
    refine L_nil ?_
    refine K_then ?_
    refine J_cond_true rfl ?_
    refine J_seq ?_
    refine J_region ?_
    refine L_v (opv_buildA (pl := [(0, 1), (1, 1), (2, 1), (3, 1), (4, 1), (5, 1)]) rfl rfl) rfl ?_
    refine L_x rfl (opx_store rfl rfl rfl (by simp [Value.oneCell'])) (fun _ _ => ?_)
    refine L_v (opv_assign rfl) rfl ?_
    refine L_nil ?_
    refine K_then ?_
    refine J_ret ?_
    refine K_then_ret ?_
    exact K_ret2c rfl rfl rfl rfl () trivial rfl Ent.take

theorem Part_ok (n k : Nat) (h : n ≤ 4095) (hk : k ≤ 255) : FSpec Tryd.prog 15 #[.int .i64 (n : Nat), .int .i64 (k : Nat)] (emp) (fun _ : Unit => True) (fun _ => .tuple #[.agg #[.int .u8 10, .int .u8 ((n / 256 % 256 : Nat) : Int), .int .u8 ((n % 256 : Nat) : Int), .int .u8 ((k : Nat) : Int)], .int .i64 0]) (fun _ => emp) := by
  refine FSpec.enter' Tryd.func15 rfl Tryd.ntmps15 rfl fun σ F => ?_
  refine J_emp ?_
  refine J_seq ?_
  refine J_region ?_
  refine L_x rfl (opx_alloc rfl) (fun b4 _ => ?_)
  refine L_v (opv_assign rfl) rfl ?_
  refine L_nil ?_
  refine K_then ?_
  refine J_seq ?_
  refine J_seq ?_
  refine J_region ?_
  refine L_v (opv_move rfl) rfl ?_
  refine L_v ((opv_lss rfl rfl).bool_f (by omega)) rfl ?_
  refine L_v (opv_move rfl) rfl ?_
  refine L_gon rfl rfl rfl ?_
  refine L_v (opv_move rfl) rfl ?_
  refine L_gon rfl rfl rfl ?_
  refine L_v ((opv_gtr rfl rfl).bool_f (by omega)) rfl ?_
  first
    | refine L_v (opv_pick_tt rfl rfl) rfl ?_
    | refine L_v (opv_pick_ff rfl rfl) rfl ?_
    | refine L_v (opv_pick rfl rfl rfl) rfl ?_
  refine L_v (opv_move rfl) rfl ?_
  refine L_gon rfl rfl rfl ?_
  refine L_v (opv_move rfl) rfl ?_
  refine L_gon rfl rfl rfl ?_
  refine L_v ((opv_lss rfl rfl).bool_f (by omega)) rfl ?_
  first
    | refine L_v (opv_pick_tt rfl rfl) rfl ?_
    | refine L_v (opv_pick_ff rfl rfl) rfl ?_
    | refine L_v (opv_pick rfl rfl rfl) rfl ?_
  refine L_v (opv_move rfl) rfl ?_
  refine L_gon rfl rfl rfl ?_
  refine L_v (opv_move rfl) rfl ?_
  refine L_gon rfl rfl rfl ?_
  refine L_v ((opv_gtr rfl rfl).bool_f (by omega)) rfl ?_
  first
    | refine L_v (opv_pick_tt rfl rfl) rfl ?_
    | refine L_v (opv_pick_ff rfl rfl) rfl ?_
    | refine L_v (opv_pick rfl rfl rfl) rfl ?_
  refine L_nil ?_
  refine K_then ?_
  refine J_cond_false rfl ?_
  refine J_skip ?_
  refine K_then ?_
  refine J_seq ?_
  refine J_region ?_
  refine L_v (opv_move rfl) rfl ?_
  refine L_v (opv_convW rfl (Go.IntWalk.u8_in _ (by omega))) rfl ?_
  refine L_v (opv_buildA (pl := [(0, 1), (1, 1), (2, 1), (3, 1)]) rfl rfl) rfl ?_
  refine L_x rfl (opx_alloc rfl) (fun b6 _ => ?_)
  refine L_x rfl (opx_store rfl rfl rfl (by simp [Value.oneCell'])) (fun _ _ => ?_)
  refine L_nil ?_
  refine K_then ?_
  refine J_seq ?_
  refine J_region ?_
  refine L_v (opv_move rfl) rfl ?_
  refine L_x rfl (opx_call0 (two_spec n (by omega)) rfl rfl rfl) (fun _ _ => ?_)
  refine L_emp ?_
  refine L_v (opv_move rfl) rfl ?_
  refine L_v (opv_extract (v := .int .u8 ((n / 256 % 256 : Nat) : Int)) rfl rfl) rfl ?_
  refine L_v (opv_extract (v := .int .u8 ((n % 256 : Nat) : Int)) rfl rfl) rfl ?_
  refine L_v ((opv_indexAddrA rfl rfl (by decide)).as (v' := .pointer (some (ad b6 1))) rfl) rfl ?_
  refine L_x rfl (opx_store rfl rfl rfl (by simp [Value.oneCell'])) (fun _ _ => ?_)
  refine L_v ((opv_indexAddrA rfl rfl (by decide)).as (v' := .pointer (some (ad b6 2))) rfl) rfl ?_
  refine L_x rfl (opx_store rfl rfl rfl (by simp [Value.oneCell'])) (fun _ _ => ?_)
  refine L_nil ?_
  refine K_then ?_
  refine J_seq ?_
  refine J_region ?_
  refine L_v (opv_loadS rfl) rfl ?_
  refine L_x rfl (opx_store rfl rfl rfl (by simp [Value.oneCell'])) (fun _ _ => ?_)
  refine L_v (opv_assign rfl) rfl ?_
  refine L_nil ?_
  refine K_then ?_
  refine J_ret ?_
  exact K_ret2c rfl rfl rfl rfl () trivial rfl Ent.take

theorem Part_bad (n k : Int) (h : ¬ (0 ≤ n ∧ n ≤ 4095 ∧ 0 ≤ k ∧ k ≤ 255)) : FSpec Tryd.prog 15 #[.int .i64 n, .int .i64 k] (emp) (fun _ : Unit => True) (fun _ => .tuple #[.agg #[.int .u8 0, .int .u8 0, .int .u8 0, .int .u8 0], .int .i64 1]) (fun _ => emp) := by
  refine FSpec.enter' Tryd.func15 rfl Tryd.ntmps15 rfl fun σ F => ?_
  refine J_emp ?_
  refine J_seq ?_
  refine J_region ?_
  refine L_x rfl (opx_alloc rfl) (fun b4 _ => ?_)
  refine L_v (opv_assign rfl) rfl ?_
  refine L_nil ?_
  refine K_then ?_
  refine J_seq ?_
  refine J_seq ?_
  refine J_region ?_
  refine L_v (opv_move rfl) rfl ?_
  refine L_v (opv_lss rfl rfl) rfl ?_
  refine L_v (opv_move rfl) rfl ?_
  refine L_gf rfl rfl (fun h1 => ?_) (fun h1 => ?_) (fun _ h => by cases h; rfl)
  · refine L_v (opv_move rfl) rfl ?_
    refine L_gf_on h1 rfl rfl ?_
    refine L_v (opv_gtr rfl rfl) rfl ?_
    refine L_v (opv_pick_f rfl h1 rfl) rfl ?_
    refine L_v (opv_move rfl) rfl ?_
    refine L_gf rfl rfl (fun h2 => ?_) (fun h2 => ?_) (fun _ h => by cases h; rfl)
    · refine L_v (opv_move rfl) rfl ?_
      refine L_gf_on h2 rfl rfl ?_
      refine L_v (opv_lss rfl rfl) rfl ?_
      refine L_v (opv_pick_f rfl h2 rfl) rfl ?_
      refine L_v (opv_move rfl) rfl ?_
      refine L_gf rfl rfl (fun h3 => ?_) (fun h3 => ?_) (fun _ h => by cases h; rfl)
      · refine L_v (opv_move rfl) rfl ?_
        refine L_gf_on h3 rfl rfl ?_
        refine L_v (opv_gtr rfl rfl) rfl ?_
        refine L_v (opv_pick_f rfl h3 rfl) rfl ?_
        refine L_nil ?_
        refine K_then ?_
        refine J_cond rfl (fun h4 => ?_) (fun h4 => by exfalso; omega)
        refine J_seq ?_
        refine J_region ?_
        refine L_v (opv_buildA (pl := [(0, 1), (1, 1), (2, 1), (3, 1)]) rfl rfl) rfl ?_
        refine L_x rfl (opx_store rfl rfl rfl (by simp [Value.oneCell'])) (fun _ _ => ?_)
        refine L_v (opv_assign rfl) rfl ?_
        refine L_nil ?_
        refine K_then ?_
        refine J_ret ?_
        refine K_then_ret ?_
        exact K_ret2c rfl rfl rfl rfl () trivial rfl Ent.take
      · refine L_gf_off h3 rfl rfl ?_ (fun _ h => by cases h; rfl)
        refine L_v (opv_pick_t rfl h3 rfl) rfl ?_
        refine L_nil ?_
        refine K_then ?_
        refine J_cond_true rfl ?_
        refine J_seq ?_
        refine J_region ?_
        refine L_v (opv_buildA (pl := [(0, 1), (1, 1), (2, 1), (3, 1)]) rfl rfl) rfl ?_
        refine L_x rfl (opx_store rfl rfl rfl (by simp [Value.oneCell'])) (fun _ _ => ?_)
        refine L_v (opv_assign rfl) rfl ?_
        refine L_nil ?_
        refine K_then ?_
        refine J_ret ?_
        refine K_then_ret ?_
        exact K_ret2c rfl rfl rfl rfl () trivial rfl Ent.take
    · refine L_gf_off h2 rfl rfl ?_ (fun _ h => by cases h; rfl)
      refine L_v (opv_pick_t rfl h2 rfl) rfl ?_
      refine L_v (opv_move rfl) rfl ?_
      refine L_gskip rfl rfl rfl ?_ (fun _ h => by cases h; rfl)
      refine L_gskip rfl rfl rfl ?_ (fun _ h => by cases h; rfl)
      first
        | refine L_v (opv_pick_tt rfl rfl) rfl ?_
        | refine L_v (opv_pick_ff rfl rfl) rfl ?_
        | refine L_v (opv_pick rfl rfl rfl) rfl ?_
      refine L_nil ?_
      refine K_then ?_
      refine J_cond_true rfl ?_
      refine J_seq ?_
      refine J_region ?_
      refine L_v (opv_buildA (pl := [(0, 1), (1, 1), (2, 1), (3, 1)]) rfl rfl) rfl ?_
      refine L_x rfl (opx_store rfl rfl rfl (by simp [Value.oneCell'])) (fun _ _ => ?_)
      refine L_v (opv_assign rfl) rfl ?_
      refine L_nil ?_
      refine K_then ?_
      refine J_ret ?_
      refine K_then_ret ?_
      exact K_ret2c rfl rfl rfl rfl () trivial rfl Ent.take
  · refine L_gf_off h1 rfl rfl ?_ (fun _ h => by cases h; rfl)
    refine L_v (opv_pick_t rfl h1 rfl) rfl ?_
    refine L_v (opv_move rfl) rfl ?_
    refine L_gskip rfl rfl rfl ?_ (fun _ h => by cases h; rfl)
    refine L_gskip rfl rfl rfl ?_ (fun _ h => by cases h; rfl)
    first
      | refine L_v (opv_pick_tt rfl rfl) rfl ?_
      | refine L_v (opv_pick_ff rfl rfl) rfl ?_
      | refine L_v (opv_pick rfl rfl rfl) rfl ?_
    refine L_v (opv_move rfl) rfl ?_
    refine L_gskip rfl rfl rfl ?_ (fun _ h => by cases h; rfl)
    refine L_gskip rfl rfl rfl ?_ (fun _ h => by cases h; rfl)
    first
      | refine L_v (opv_pick_tt rfl rfl) rfl ?_
      | refine L_v (opv_pick_ff rfl rfl) rfl ?_
      | refine L_v (opv_pick rfl rfl rfl) rfl ?_
    refine L_nil ?_
    refine K_then ?_
    refine J_cond_true rfl ?_
    refine J_seq ?_
    refine J_region ?_
    refine L_v (opv_buildA (pl := [(0, 1), (1, 1), (2, 1), (3, 1)]) rfl rfl) rfl ?_
    refine L_x rfl (opx_store rfl rfl rfl (by simp [Value.oneCell'])) (fun _ _ => ?_)
    refine L_v (opv_assign rfl) rfl ?_
    refine L_nil ?_
    refine K_then ?_
    refine J_ret ?_
    refine K_then_ret ?_
    exact K_ret2c rfl rfl rfl rfl () trivial rfl Ent.take

theorem text_spec (w0 w1 w2 w3 w4 w5 : Int) (h : ∀ v ∈ [w0, w1, w2, w3, w4, w5], 0 ≤ v ∧ v < 256) : FSpec Tryd.prog 23 #[.agg #[.int .u8 w0, .int .u8 w1, .int .u8 w2, .int .u8 w3, .int .u8 w4, .int .u8 w5]] (emp) (fun _ : Unit => True) (fun _ => .string (bytesL [w0, w1, w2, w3, w4, w5])) (fun _ => emp) := by
  refine FSpec.enter' Tryd.func23 rfl Tryd.ntmps23 rfl fun σ F => ?_
  refine J_emp ?_
  refine J_seq ?_
  refine J_region ?_
  refine L_x rfl (opx_box (l := [.int .u8 w0, .int .u8 w1, .int .u8 w2, .int .u8 w3, .int .u8 w4, .int .u8 w5]) rfl rfl) (fun b1 _ => ?_)
  refine L_v (opv_assign rfl) rfl ?_
  refine L_nil ?_
  refine K_then ?_
  refine J_seq ?_
  refine J_region ?_
  first
    | refine L_v (opv_indexAddr rfl rfl (by omega)) rfl ?_
    | refine L_v (opv_indexAddrA rfl rfl (by omega)) rfl ?_
  refine L_v (opv_load rfl (Rd.look rfl)) rfl ?_
  first
    | refine L_v (opv_indexAddr rfl rfl (by omega)) rfl ?_
    | refine L_v (opv_indexAddrA rfl rfl (by omega)) rfl ?_
  refine L_v (opv_load rfl (Rd.look rfl)) rfl ?_
  first
    | refine L_v (opv_indexAddr rfl rfl (by omega)) rfl ?_
    | refine L_v (opv_indexAddrA rfl rfl (by omega)) rfl ?_
  refine L_v (opv_load rfl (Rd.look rfl)) rfl ?_
  first
    | refine L_v (opv_indexAddr rfl rfl (by omega)) rfl ?_
    | refine L_v (opv_indexAddrA rfl rfl (by omega)) rfl ?_
  refine L_v (opv_load rfl (Rd.look rfl)) rfl ?_
  first
    | refine L_v (opv_indexAddr rfl rfl (by omega)) rfl ?_
    | refine L_v (opv_indexAddrA rfl rfl (by omega)) rfl ?_
  refine L_v (opv_load rfl (Rd.look rfl)) rfl ?_
  first
    | refine L_v (opv_indexAddr rfl rfl (by omega)) rfl ?_
    | refine L_v (opv_indexAddrA rfl rfl (by omega)) rfl ?_
  refine L_v (opv_load rfl (Rd.look rfl)) rfl ?_
  refine L_x rfl (opx_buildSliceL rfl rfl rfl (by omega) (by simp [Value.cells]) rfl) (fun b15 _ => ?_)
  refine L_v (opv_b2sL [w0, w1, w2, w3, w4, w5] rfl rfl rfl h) rfl ?_
  refine L_v (opv_assign rfl) rfl ?_
  refine L_nil ?_
  refine K_then ?_
  refine J_ret ?_
  exact K_ret1 rfl rfl () trivial (rfl) Ent.take

theorem short_spec (w0 w1 w2 w3 : Int) (h : ∀ v ∈ [w0, w1, w2, w3], 0 ≤ v ∧ v < 256) : FSpec Tryd.prog 19 #[.agg #[.int .u8 w0, .int .u8 w1, .int .u8 w2, .int .u8 w3]] (emp) (fun _ : Unit => True) (fun _ => .string (bytesL [w0, w1, w2, w3])) (fun _ => emp) := by
  refine FSpec.enter' Tryd.func19 rfl Tryd.ntmps19 rfl fun σ F => ?_
  refine J_emp ?_
  refine J_seq ?_
  refine J_region ?_
  refine L_x rfl (opx_box (l := [.int .u8 w0, .int .u8 w1, .int .u8 w2, .int .u8 w3]) rfl rfl) (fun b1 _ => ?_)
  refine L_v (opv_assign rfl) rfl ?_
  refine L_nil ?_
  refine K_then ?_
  refine J_seq ?_
  refine J_region ?_
  first
    | refine L_v (opv_indexAddr rfl rfl (by omega)) rfl ?_
    | refine L_v (opv_indexAddrA rfl rfl (by omega)) rfl ?_
  refine L_v (opv_load rfl (Rd.look rfl)) rfl ?_
  first
    | refine L_v (opv_indexAddr rfl rfl (by omega)) rfl ?_
    | refine L_v (opv_indexAddrA rfl rfl (by omega)) rfl ?_
  refine L_v (opv_load rfl (Rd.look rfl)) rfl ?_
  first
    | refine L_v (opv_indexAddr rfl rfl (by omega)) rfl ?_
    | refine L_v (opv_indexAddrA rfl rfl (by omega)) rfl ?_
  refine L_v (opv_load rfl (Rd.look rfl)) rfl ?_
  first
    | refine L_v (opv_indexAddr rfl rfl (by omega)) rfl ?_
    | refine L_v (opv_indexAddrA rfl rfl (by omega)) rfl ?_
  refine L_v (opv_load rfl (Rd.look rfl)) rfl ?_
  refine L_x rfl (opx_buildSliceL rfl rfl rfl (by omega) (by simp [Value.cells]) rfl) (fun b11 _ => ?_)
  refine L_v (opv_b2sL [w0, w1, w2, w3] rfl rfl rfl h) rfl ?_
  refine L_v (opv_assign rfl) rfl ?_
  refine L_nil ?_
  refine K_then ?_
  refine J_ret ?_
  exact K_ret1 rfl rfl () trivial (rfl) Ent.take

end Go.Proofs.YtkkoepnljofhpaaDoor
