/- Contracts of icmp.Decode and of its reference, each proved by a walk over its code; they are used by the texts that import this one. -/
import Derived.Test.YtkkomlcjcgdbeaaIc
import Derived.Test.YtkkomlcjcgdbeaaH
namespace Go.Proofs.Ytkkomlcjcgdbeaa
open Go.SLA
set_option maxRecDepth 100000
set_option linter.unusedVariables false
set_option linter.unusedSimpArgs false
attribute [local irreducible] J L K QL Rg FSpec OpV OpX Rd Back
attribute [local irreducible] be ones echoT echo word
theorem word_eq (s : ByteArray) (i : Nat) : word s i = bn s i * 256 + bn s (i + 1) := by unfold word; rfl
theorem RDecode_spec (s : ByteArray) (hs : s.size ≤ 1000) : FSpec Try.prog 19 #[.string s] (emp) (fun _ : Unit => True) (fun _ => .tuple #[.agg (encEc (decI s).1).toArray, .int .i64 (decI s).2]) (fun _ => emp) := by
  have hb0 := byt_bn s 0
  have hb1 := byt_bn s 1
  have hl0 := bn_lt s 0
  have hl1 := bn_lt s 1
  have hw0 := word_eq s 0
  rw [Nat.zero_add] at hw0
  refine FSpec.enter' Try.func19 rfl Try.ntmps19 rfl fun σ F => ?_
  refine J_emp ?_
  refine J_seq ?_
  refine J_region ?_
  refine L_x rfl (opx_alloc rfl) (fun b2 _ => ?_)
  refine L_v (opv_assign rfl) rfl ?_
  refine L_nil ?_
  refine K_then ?_
  refine J_seq ?_
  refine J_seq ?_
  refine J_region ?_
  refine L_v (opv_move rfl) rfl ?_
  first
    | refine L_v (opv_lenL rfl) rfl ?_
    | refine L_v (opv_lenS rfl) rfl ?_
  refine L_v (opv_lss rfl rfl) rfl ?_
  refine L_nil ?_
  refine K_then ?_
  refine J_cond rfl (fun h1 => ?_) (fun h1 => ?_)
  · refine J_seq ?_
    refine J_region ?_
    refine L_v (opv_build rfl) rfl ?_
    refine L_x rfl (opx_store rfl rfl rfl (by simp [Value.oneCell'])) (fun _ _ => ?_)
    refine L_v (opv_assign rfl) rfl ?_
    refine L_nil ?_
    refine K_then ?_
    refine J_ret ?_
    refine K_then_ret ?_
    exact K_ret2c rfl rfl rfl rfl () trivial (by rw [decI_a (by omega)]; rfl) Ent.take
  · refine J_skip ?_
    refine K_then ?_
    refine J_seq ?_
    refine J_seq ?_
    refine J_region ?_
    refine L_v (opv_move rfl) rfl ?_
    first
      | refine L_v (opv_lenL rfl) rfl ?_
      | refine L_v (opv_lenS rfl) rfl ?_
    refine L_v (opv_gtr rfl rfl) rfl ?_
    refine L_nil ?_
    refine K_then ?_
    refine J_cond rfl (fun h2 => ?_) (fun h2 => ?_)
    · refine J_seq ?_
      refine J_region ?_
      refine L_v (opv_build rfl) rfl ?_
      refine L_x rfl (opx_store rfl rfl rfl (by simp [Value.oneCell'])) (fun _ _ => ?_)
      refine L_v (opv_assign rfl) rfl ?_
      refine L_nil ?_
      refine K_then ?_
      refine J_ret ?_
      refine K_then_ret ?_
      exact K_ret2c rfl rfl rfl rfl () trivial (by rw [decI_b (by omega)]; rfl) Ent.take
    · refine J_skip ?_
      refine K_then ?_
      refine J_seq ?_
      refine J_seq ?_
      refine J_region ?_
      refine L_v (opv_move rfl) rfl ?_
      refine L_v ((opv_indexS rfl rfl (by omega)).as (v' := .int .u8 (byt s 0)) rfl) rfl ?_
      first
        | refine L_v (opv_neq rfl rfl) rfl ?_
        | refine L_v (opv_neqS rfl rfl) rfl ?_
        | refine L_v (opv_neqNil rfl rfl) rfl ?_
        | refine L_v (opv_neqB rfl rfl) rfl ?_
      refine L_v (opv_move rfl) rfl ?_
      refine L_gt rfl rfl (fun h3 => ?_) (fun h3 => ?_) (fun _ h => by cases h; rfl)
      · refine L_v (opv_move rfl) rfl ?_
        refine L_gt_on h3 rfl rfl ?_
        refine L_v ((opv_indexS rfl rfl (by omega)).as (v' := .int .u8 (byt s 0)) rfl) rfl ?_
        refine L_gt_on h3 rfl rfl ?_
        first
          | refine L_v (opv_neq rfl rfl) rfl ?_
          | refine L_v (opv_neqS rfl rfl) rfl ?_
          | refine L_v (opv_neqNil rfl rfl) rfl ?_
          | refine L_v (opv_neqB rfl rfl) rfl ?_
        refine L_v (opv_pick_t rfl h3 rfl) rfl ?_
        refine L_v (opv_move rfl) rfl ?_
        refine L_gf rfl rfl (fun h4 => ?_) (fun h4 => ?_) (fun _ h => by cases h; rfl)
        · refine L_v (opv_move rfl) rfl ?_
          refine L_gf_on h4 rfl rfl ?_
          refine L_v ((opv_indexS rfl rfl (by omega)).as (v' := .int .u8 (byt s 1)) rfl) rfl ?_
          refine L_gf_on h4 rfl rfl ?_
          first
            | refine L_v (opv_neq rfl rfl) rfl ?_
            | refine L_v (opv_neqS rfl rfl) rfl ?_
            | refine L_v (opv_neqNil rfl rfl) rfl ?_
            | refine L_v (opv_neqB rfl rfl) rfl ?_
          refine L_v (opv_pick_f rfl h4 rfl) rfl ?_
          refine L_nil ?_
          refine K_then ?_
          refine J_cond rfl (fun h5 => ?_) (fun h5 => ?_)
          · refine J_seq ?_
            refine J_region ?_
            refine L_v (opv_build rfl) rfl ?_
            refine L_x rfl (opx_store rfl rfl rfl (by simp [Value.oneCell'])) (fun _ _ => ?_)
            refine L_v (opv_assign rfl) rfl ?_
            refine L_nil ?_
            refine K_then ?_
            refine J_ret ?_
            refine K_then_ret ?_
            exact K_ret2c rfl rfl rfl rfl () trivial (by rw [decI_c (by omega) (by omega) (by omega)]; rfl) Ent.take
          · refine J_skip ?_
            refine K_then ?_
            refine J_seq ?_
            refine J_steps (emp) (emp) [] Try.mixed ?_
            refine R_pure 0 rfl (by kernel_rfl) (by kernel_rfl) (by kernel_rfl) (by kernel_rfl) (.inr ⟨_, Take.eq (A := emp)⟩) (opv_move rfl) rfl ?_
            refine R_pure 1 rfl (by kernel_rfl) (by kernel_rfl) (by kernel_rfl) (by kernel_rfl) (.inr ⟨_, Take.eq (A := emp)⟩) ((opv_indexS rfl rfl (by omega)).as (v' := .int .u8 (byt s 0)) rfl) rfl ?_
            refine R_pure 2 rfl (by kernel_rfl) (by kernel_rfl) (by kernel_rfl) (by kernel_rfl) (.inr ⟨_, Take.eq (A := emp)⟩) ((opv_eql rfl rfl).as (v' := .bool (parse s).rep) (congrArg Value.bool (decide_eq_decide.2 (by omega)))) rfl ?_
            refine R_pure 3 rfl (by kernel_rfl) (by kernel_rfl) (by kernel_rfl) (by kernel_rfl) (.inr ⟨_, Take.eq (A := emp)⟩) (opv_move rfl) rfl ?_
            refine R_pure 4 rfl (by kernel_rfl) (by kernel_rfl) (by kernel_rfl) (by kernel_rfl) (.inr ⟨_, Take.eq (A := emp)⟩) ((opv_indexS rfl rfl (by omega)).as (v' := .int .u8 (byt s 4)) rfl) rfl ?_
            refine R_pure 5 rfl (by kernel_rfl) (by kernel_rfl) (by kernel_rfl) (by kernel_rfl) (.inr ⟨_, Take.eq (A := emp)⟩) (opv_convW rfl (Go.IntWalk.i64_in _ (by have := byt_lt s 4; have := byt_ge s 4; omega))) rfl ?_
            refine R_pure 6 rfl (by kernel_rfl) (by kernel_rfl) (by kernel_rfl) (by kernel_rfl) (.inr ⟨_, Take.eq (A := emp)⟩) (opv_mul64 rfl rfl (by have := byt_lt s 4; have := byt_ge s 4; omega)) rfl ?_
            refine R_pure 7 rfl (by kernel_rfl) (by kernel_rfl) (by kernel_rfl) (by kernel_rfl) (.inr ⟨_, Take.eq (A := emp)⟩) (opv_move rfl) rfl ?_
            refine R_pure 8 rfl (by kernel_rfl) (by kernel_rfl) (by kernel_rfl) (by kernel_rfl) (.inr ⟨_, Take.eq (A := emp)⟩) ((opv_indexS rfl rfl (by omega)).as (v' := .int .u8 (byt s 5)) rfl) rfl ?_
            refine R_pure 9 rfl (by kernel_rfl) (by kernel_rfl) (by kernel_rfl) (by kernel_rfl) (.inr ⟨_, Take.eq (A := emp)⟩) (opv_convW rfl (Go.IntWalk.i64_in _ (by have := byt_lt s 5; have := byt_ge s 5; omega))) rfl ?_
            refine R_pure 10 rfl (by kernel_rfl) (by kernel_rfl) (by kernel_rfl) (by kernel_rfl) (.inr ⟨_, Take.eq (A := emp)⟩) ((opv_add64 rfl rfl (by have := byt_lt s 4; have := byt_ge s 4; have := byt_lt s 5; have := byt_ge s 5; omega)).as (v' := .int .i64 (word s 4 : Nat)) (congrArg (Value.int .i64) (by have hx := byt_bn s 4; have g := byt_bn s 5; have e : word s 4 = bn s 4 * 256 + bn s 5 := word_eq s 4; omega))) rfl ?_
            refine R_pure 11 rfl (by kernel_rfl) (by kernel_rfl) (by kernel_rfl) (by kernel_rfl) (.inr ⟨_, Take.eq (A := emp)⟩) (opv_move rfl) rfl ?_
            refine R_pure 12 rfl (by kernel_rfl) (by kernel_rfl) (by kernel_rfl) (by kernel_rfl) (.inr ⟨_, Take.eq (A := emp)⟩) ((opv_indexS rfl rfl (by omega)).as (v' := .int .u8 (byt s 6)) rfl) rfl ?_
            refine R_pure 13 rfl (by kernel_rfl) (by kernel_rfl) (by kernel_rfl) (by kernel_rfl) (.inr ⟨_, Take.eq (A := emp)⟩) (opv_convW rfl (Go.IntWalk.i64_in _ (by have := byt_lt s 6; have := byt_ge s 6; omega))) rfl ?_
            refine R_pure 14 rfl (by kernel_rfl) (by kernel_rfl) (by kernel_rfl) (by kernel_rfl) (.inr ⟨_, Take.eq (A := emp)⟩) (opv_mul64 rfl rfl (by have := byt_lt s 6; have := byt_ge s 6; omega)) rfl ?_
            refine R_pure 15 rfl (by kernel_rfl) (by kernel_rfl) (by kernel_rfl) (by kernel_rfl) (.inr ⟨_, Take.eq (A := emp)⟩) (opv_move rfl) rfl ?_
            refine R_pure 16 rfl (by kernel_rfl) (by kernel_rfl) (by kernel_rfl) (by kernel_rfl) (.inr ⟨_, Take.eq (A := emp)⟩) ((opv_indexS rfl rfl (by omega)).as (v' := .int .u8 (byt s 7)) rfl) rfl ?_
            refine R_pure 17 rfl (by kernel_rfl) (by kernel_rfl) (by kernel_rfl) (by kernel_rfl) (.inr ⟨_, Take.eq (A := emp)⟩) (opv_convW rfl (Go.IntWalk.i64_in _ (by have := byt_lt s 7; have := byt_ge s 7; omega))) rfl ?_
            refine R_pure 18 rfl (by kernel_rfl) (by kernel_rfl) (by kernel_rfl) (by kernel_rfl) (.inr ⟨_, Take.eq (A := emp)⟩) ((opv_add64 rfl rfl (by have := byt_lt s 6; have := byt_ge s 6; have := byt_lt s 7; have := byt_ge s 7; omega)).as (v' := .int .i64 (word s 6 : Nat)) (congrArg (Value.int .i64) (by have hx := byt_bn s 6; have g := byt_bn s 7; have e : word s 6 = bn s 6 * 256 + bn s 7 := word_eq s 6; omega))) rfl ?_
            refine R_pure 19 rfl (by kernel_rfl) (by kernel_rfl) (by kernel_rfl) (by kernel_rfl) (.inr ⟨_, Take.eq (A := emp)⟩) (opv_move rfl) rfl ?_
            refine R_pure 20 rfl (by kernel_rfl) (by kernel_rfl) (by kernel_rfl) (by kernel_rfl) (.inr ⟨_, Take.eq (A := emp)⟩) ((opv_sliceSlo rfl rfl (by omega)).as (congrArg (fun k => Value.string (s.extract k s.size)) (show Int.toNat 8 = 8 from rfl))) rfl ?_
            refine R_pure 21 rfl (by kernel_rfl) (by kernel_rfl) (by kernel_rfl) (by kernel_rfl) (.inr ⟨_, Take.eq (A := emp)⟩) (opv_build rfl) rfl ?_
            refine R_only 22 rfl rfl (by kernel_rfl) (opx_alloc rfl) (fun _ _ => ⟨_, Take.eq (A := emp)⟩) (.inr fun _ _ => ⟨_, Take.eq (A := emp)⟩) (fun b4 _ => ?_)
            refine R_only 23 rfl rfl (by kernel_rfl) (opx_store rfl rfl rfl (by simp [Value.oneCell'])) (fun _ _ => ⟨_, Take.eq (A := emp)⟩) (.inr fun _ _ => ⟨_, Take.eq (A := emp)⟩) (fun _ _ => ?_)
            refine R_done (by kernel_rfl) ?_
            refine K_then ?_
            refine J_seq ?_
            refine J_region ?_
            refine L_v (opv_loadS rfl) rfl ?_
            refine L_x rfl (opx_call0 (REncode_ok (parse s) (parse_nb s) (by rw [parse_sz]; omega)) rfl rfl rfl) (fun _ _ => ?_)
            refine L_emp ?_
            refine L_v (opv_move rfl) rfl ?_
            refine L_v (opv_extract rfl rfl) rfl ?_
            refine L_v (opv_extract rfl rfl) rfl ?_
            refine L_v (opv_assign rfl) rfl ?_
            refine L_v (opv_assign rfl) rfl ?_
            refine L_nil ?_
            refine K_then ?_
            refine J_seq ?_
            refine J_seq ?_
            refine J_region ?_
            refine L_v (opv_move rfl) rfl ?_
            refine L_v (opv_move rfl) rfl ?_
            first
              | refine L_v (opv_neq rfl rfl) rfl ?_
              | refine L_v (opv_neqS rfl rfl) rfl ?_
              | refine L_v (opv_neqNil rfl rfl) rfl ?_
              | refine L_v (opv_neqB rfl rfl) rfl ?_
            refine L_nil ?_
            refine K_then ?_
            refine J_cond rfl (fun h6 => ?_) (fun h6 => ?_)
            · refine J_seq ?_
              refine J_region ?_
              refine L_v (opv_build rfl) rfl ?_
              refine L_x rfl (opx_store rfl rfl rfl (by simp [Value.oneCell'])) (fun _ _ => ?_)
              refine L_v (opv_assign rfl) rfl ?_
              refine L_nil ?_
              refine K_then ?_
              refine J_ret ?_
              refine K_then_ret ?_
              exact K_ret2c rfl rfl rfl rfl () trivial (by rw [decI_d (by omega) (by omega) (by omega) (by assumption)]; rfl) Ent.take
            · refine J_skip ?_
              refine K_then ?_
              refine J_seq ?_
              refine J_region ?_
              refine L_v (opv_loadS rfl) rfl ?_
              refine L_x rfl (opx_store rfl rfl rfl (by simp [Value.oneCell'])) (fun _ _ => ?_)
              refine L_v (opv_assign rfl) rfl ?_
              refine L_nil ?_
              refine K_then ?_
              refine J_ret ?_
              exact K_ret2c rfl rfl rfl rfl () trivial (by rw [decI_e (by omega) (by omega) (by omega) (by assumption)]; rfl) Ent.take
        · refine L_gf_off h4 rfl rfl ?_ (fun _ h => by cases h; rfl)
          refine L_gf_off h4 rfl rfl ?_ (fun _ h => by cases h; rfl)
          refine L_v (opv_pick_t rfl h4 rfl) rfl ?_
          refine L_nil ?_
          refine K_then ?_
          refine J_cond_true rfl ?_
          refine J_seq ?_
          refine J_region ?_
          refine L_v (opv_build rfl) rfl ?_
          refine L_x rfl (opx_store rfl rfl rfl (by simp [Value.oneCell'])) (fun _ _ => ?_)
          refine L_v (opv_assign rfl) rfl ?_
          refine L_nil ?_
          refine K_then ?_
          refine J_ret ?_
          refine K_then_ret ?_
          exact K_ret2c rfl rfl rfl rfl () trivial (by rw [decI_c (by omega) (by omega) (by omega)]; rfl) Ent.take
      · refine L_gt_off h3 rfl rfl ?_ (fun _ h => by cases h; rfl)
        refine L_gt_off h3 rfl rfl ?_ (fun _ h => by cases h; rfl)
        refine L_v (opv_pick_f rfl h3 rfl) rfl ?_
        refine L_v (opv_move rfl) rfl ?_
        refine L_gon rfl rfl rfl ?_
        refine L_v (opv_move rfl) rfl ?_
        refine L_gon rfl rfl rfl ?_
        refine L_v ((opv_indexS rfl rfl (by omega)).as (v' := .int .u8 (byt s 1)) rfl) rfl ?_
        refine L_gon rfl rfl rfl ?_
        first
          | refine L_v (opv_neq rfl rfl) rfl ?_
          | refine L_v (opv_neqS rfl rfl) rfl ?_
          | refine L_v (opv_neqNil rfl rfl) rfl ?_
          | refine L_v (opv_neqB rfl rfl) rfl ?_
        first
          | refine L_v (opv_pick_tt rfl rfl) rfl ?_
          | refine L_v (opv_pick_ff rfl rfl) rfl ?_
          | refine L_v (opv_pick rfl rfl rfl) rfl ?_
        refine L_nil ?_
        refine K_then ?_
        refine J_cond rfl (fun h7 => ?_) (fun h7 => ?_)
        · refine J_seq ?_
          refine J_region ?_
          refine L_v (opv_build rfl) rfl ?_
          refine L_x rfl (opx_store rfl rfl rfl (by simp [Value.oneCell'])) (fun _ _ => ?_)
          refine L_v (opv_assign rfl) rfl ?_
          refine L_nil ?_
          refine K_then ?_
          refine J_ret ?_
          refine K_then_ret ?_
          exact K_ret2c rfl rfl rfl rfl () trivial (by rw [decI_c (by omega) (by omega) (by omega)]; rfl) Ent.take
        · refine J_skip ?_
          refine K_then ?_
          refine J_seq ?_
          refine J_steps (emp) (emp) [] Try.mixed ?_
          refine R_pure 0 rfl (by kernel_rfl) (by kernel_rfl) (by kernel_rfl) (by kernel_rfl) (.inr ⟨_, Take.eq (A := emp)⟩) (opv_move rfl) rfl ?_
          refine R_pure 1 rfl (by kernel_rfl) (by kernel_rfl) (by kernel_rfl) (by kernel_rfl) (.inr ⟨_, Take.eq (A := emp)⟩) ((opv_indexS rfl rfl (by omega)).as (v' := .int .u8 (byt s 0)) rfl) rfl ?_
          refine R_pure 2 rfl (by kernel_rfl) (by kernel_rfl) (by kernel_rfl) (by kernel_rfl) (.inr ⟨_, Take.eq (A := emp)⟩) ((opv_eql rfl rfl).as (v' := .bool (parse s).rep) (congrArg Value.bool (decide_eq_decide.2 (by omega)))) rfl ?_
          refine R_pure 3 rfl (by kernel_rfl) (by kernel_rfl) (by kernel_rfl) (by kernel_rfl) (.inr ⟨_, Take.eq (A := emp)⟩) (opv_move rfl) rfl ?_
          refine R_pure 4 rfl (by kernel_rfl) (by kernel_rfl) (by kernel_rfl) (by kernel_rfl) (.inr ⟨_, Take.eq (A := emp)⟩) ((opv_indexS rfl rfl (by omega)).as (v' := .int .u8 (byt s 4)) rfl) rfl ?_
          refine R_pure 5 rfl (by kernel_rfl) (by kernel_rfl) (by kernel_rfl) (by kernel_rfl) (.inr ⟨_, Take.eq (A := emp)⟩) (opv_convW rfl (Go.IntWalk.i64_in _ (by have := byt_lt s 4; have := byt_ge s 4; omega))) rfl ?_
          refine R_pure 6 rfl (by kernel_rfl) (by kernel_rfl) (by kernel_rfl) (by kernel_rfl) (.inr ⟨_, Take.eq (A := emp)⟩) (opv_mul64 rfl rfl (by have := byt_lt s 4; have := byt_ge s 4; omega)) rfl ?_
          refine R_pure 7 rfl (by kernel_rfl) (by kernel_rfl) (by kernel_rfl) (by kernel_rfl) (.inr ⟨_, Take.eq (A := emp)⟩) (opv_move rfl) rfl ?_
          refine R_pure 8 rfl (by kernel_rfl) (by kernel_rfl) (by kernel_rfl) (by kernel_rfl) (.inr ⟨_, Take.eq (A := emp)⟩) ((opv_indexS rfl rfl (by omega)).as (v' := .int .u8 (byt s 5)) rfl) rfl ?_
          refine R_pure 9 rfl (by kernel_rfl) (by kernel_rfl) (by kernel_rfl) (by kernel_rfl) (.inr ⟨_, Take.eq (A := emp)⟩) (opv_convW rfl (Go.IntWalk.i64_in _ (by have := byt_lt s 5; have := byt_ge s 5; omega))) rfl ?_
          refine R_pure 10 rfl (by kernel_rfl) (by kernel_rfl) (by kernel_rfl) (by kernel_rfl) (.inr ⟨_, Take.eq (A := emp)⟩) ((opv_add64 rfl rfl (by have := byt_lt s 4; have := byt_ge s 4; have := byt_lt s 5; have := byt_ge s 5; omega)).as (v' := .int .i64 (word s 4 : Nat)) (congrArg (Value.int .i64) (by have hx := byt_bn s 4; have g := byt_bn s 5; have e : word s 4 = bn s 4 * 256 + bn s 5 := word_eq s 4; omega))) rfl ?_
          refine R_pure 11 rfl (by kernel_rfl) (by kernel_rfl) (by kernel_rfl) (by kernel_rfl) (.inr ⟨_, Take.eq (A := emp)⟩) (opv_move rfl) rfl ?_
          refine R_pure 12 rfl (by kernel_rfl) (by kernel_rfl) (by kernel_rfl) (by kernel_rfl) (.inr ⟨_, Take.eq (A := emp)⟩) ((opv_indexS rfl rfl (by omega)).as (v' := .int .u8 (byt s 6)) rfl) rfl ?_
          refine R_pure 13 rfl (by kernel_rfl) (by kernel_rfl) (by kernel_rfl) (by kernel_rfl) (.inr ⟨_, Take.eq (A := emp)⟩) (opv_convW rfl (Go.IntWalk.i64_in _ (by have := byt_lt s 6; have := byt_ge s 6; omega))) rfl ?_
          refine R_pure 14 rfl (by kernel_rfl) (by kernel_rfl) (by kernel_rfl) (by kernel_rfl) (.inr ⟨_, Take.eq (A := emp)⟩) (opv_mul64 rfl rfl (by have := byt_lt s 6; have := byt_ge s 6; omega)) rfl ?_
          refine R_pure 15 rfl (by kernel_rfl) (by kernel_rfl) (by kernel_rfl) (by kernel_rfl) (.inr ⟨_, Take.eq (A := emp)⟩) (opv_move rfl) rfl ?_
          refine R_pure 16 rfl (by kernel_rfl) (by kernel_rfl) (by kernel_rfl) (by kernel_rfl) (.inr ⟨_, Take.eq (A := emp)⟩) ((opv_indexS rfl rfl (by omega)).as (v' := .int .u8 (byt s 7)) rfl) rfl ?_
          refine R_pure 17 rfl (by kernel_rfl) (by kernel_rfl) (by kernel_rfl) (by kernel_rfl) (.inr ⟨_, Take.eq (A := emp)⟩) (opv_convW rfl (Go.IntWalk.i64_in _ (by have := byt_lt s 7; have := byt_ge s 7; omega))) rfl ?_
          refine R_pure 18 rfl (by kernel_rfl) (by kernel_rfl) (by kernel_rfl) (by kernel_rfl) (.inr ⟨_, Take.eq (A := emp)⟩) ((opv_add64 rfl rfl (by have := byt_lt s 6; have := byt_ge s 6; have := byt_lt s 7; have := byt_ge s 7; omega)).as (v' := .int .i64 (word s 6 : Nat)) (congrArg (Value.int .i64) (by have hx := byt_bn s 6; have g := byt_bn s 7; have e : word s 6 = bn s 6 * 256 + bn s 7 := word_eq s 6; omega))) rfl ?_
          refine R_pure 19 rfl (by kernel_rfl) (by kernel_rfl) (by kernel_rfl) (by kernel_rfl) (.inr ⟨_, Take.eq (A := emp)⟩) (opv_move rfl) rfl ?_
          refine R_pure 20 rfl (by kernel_rfl) (by kernel_rfl) (by kernel_rfl) (by kernel_rfl) (.inr ⟨_, Take.eq (A := emp)⟩) ((opv_sliceSlo rfl rfl (by omega)).as (congrArg (fun k => Value.string (s.extract k s.size)) (show Int.toNat 8 = 8 from rfl))) rfl ?_
          refine R_pure 21 rfl (by kernel_rfl) (by kernel_rfl) (by kernel_rfl) (by kernel_rfl) (.inr ⟨_, Take.eq (A := emp)⟩) (opv_build rfl) rfl ?_
          refine R_only 22 rfl rfl (by kernel_rfl) (opx_alloc rfl) (fun _ _ => ⟨_, Take.eq (A := emp)⟩) (.inr fun _ _ => ⟨_, Take.eq (A := emp)⟩) (fun b4 _ => ?_)
          refine R_only 23 rfl rfl (by kernel_rfl) (opx_store rfl rfl rfl (by simp [Value.oneCell'])) (fun _ _ => ⟨_, Take.eq (A := emp)⟩) (.inr fun _ _ => ⟨_, Take.eq (A := emp)⟩) (fun _ _ => ?_)
          refine R_done (by kernel_rfl) ?_
          refine K_then ?_
          refine J_seq ?_
          refine J_region ?_
          refine L_v (opv_loadS rfl) rfl ?_
          refine L_x rfl (opx_call0 (REncode_ok (parse s) (parse_nb s) (by rw [parse_sz]; omega)) rfl rfl rfl) (fun _ _ => ?_)
          refine L_emp ?_
          refine L_v (opv_move rfl) rfl ?_
          refine L_v (opv_extract rfl rfl) rfl ?_
          refine L_v (opv_extract rfl rfl) rfl ?_
          refine L_v (opv_assign rfl) rfl ?_
          refine L_v (opv_assign rfl) rfl ?_
          refine L_nil ?_
          refine K_then ?_
          refine J_seq ?_
          refine J_seq ?_
          refine J_region ?_
          refine L_v (opv_move rfl) rfl ?_
          refine L_v (opv_move rfl) rfl ?_
          first
            | refine L_v (opv_neq rfl rfl) rfl ?_
            | refine L_v (opv_neqS rfl rfl) rfl ?_
            | refine L_v (opv_neqNil rfl rfl) rfl ?_
            | refine L_v (opv_neqB rfl rfl) rfl ?_
          refine L_nil ?_
          refine K_then ?_
          refine J_cond rfl (fun h8 => ?_) (fun h8 => ?_)
          · refine J_seq ?_
            refine J_region ?_
            refine L_v (opv_build rfl) rfl ?_
            refine L_x rfl (opx_store rfl rfl rfl (by simp [Value.oneCell'])) (fun _ _ => ?_)
            refine L_v (opv_assign rfl) rfl ?_
            refine L_nil ?_
            refine K_then ?_
            refine J_ret ?_
            refine K_then_ret ?_
            exact K_ret2c rfl rfl rfl rfl () trivial (by rw [decI_d (by omega) (by omega) (by omega) (by assumption)]; rfl) Ent.take
          · refine J_skip ?_
            refine K_then ?_
            refine J_seq ?_
            refine J_region ?_
            refine L_v (opv_loadS rfl) rfl ?_
            refine L_x rfl (opx_store rfl rfl rfl (by simp [Value.oneCell'])) (fun _ _ => ?_)
            refine L_v (opv_assign rfl) rfl ?_
            refine L_nil ?_
            refine K_then ?_
            refine J_ret ?_
            exact K_ret2c rfl rfl rfl rfl () trivial (by rw [decI_e (by omega) (by omega) (by omega) (by assumption)]; rfl) Ent.take

end Go.Proofs.Ytkkomlcjcgdbeaa
