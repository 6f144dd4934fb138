/- The law UdpDecodes of the package pitotlaw06 holds for every input: which datagram bytes are, or why they are none. No condition. -/
import Derived.Test.YtdmlcnecildliaaUe
import Derived.Test.YtdmlcnecildliaaUd
import Derived.Test.YtdmlcnecildliaaH
namespace Go.Proofs.Ytdmlcnecildliaa
open Go.SLA
set_option maxRecDepth 100000
set_option linter.unusedVariables false
set_option linter.unusedSimpArgs false
attribute [local irreducible] J L K QL Rg FSpec OpV OpX Rd Back
attribute [local irreducible] be usum ones sumT word nextC datag
theorem two_spec (s : ByteArray) (h : 2 ≤ s.size) : FSpec Try.prog 52 #[.string s] (emp) (fun _ : Unit => True) (fun _ => .int .i64 (word s 0 : Nat)) (fun _ => emp) := by
  have hb0 := byt_bn s 0
  have hb1 := byt_bn s 1
  have hl0 := bn_lt s 0
  have hl1 := bn_lt s 1
  have hw : word s 0 = bn s 0 * 256 + bn s 1 := word_eq s 0
  refine FSpec.enter' Try.func52 rfl Try.ntmps52 rfl fun σ F => ?_
  refine J_seq ?_
  refine J_region ?_
  refine L_v (opv_assign rfl) rfl ?_
  refine L_nil ?_
  refine K_then ?_
  refine J_seq ?_
  refine J_quiet Try.mixed (by kernel_rfl) ?_
  refine Q_v (opv_move rfl) rfl ?_
  refine Q_v ((opv_indexS rfl rfl (by omega)).as (v' := .int .u8 (byt s 0)) rfl) rfl ?_
  refine Q_v (opv_convW rfl (Go.IntWalk.i64_in _ (by have := byt_lt s 0; have := byt_ge s 0; omega))) rfl ?_
  refine Q_v (opv_mul64 rfl rfl (by omega)) rfl ?_
  refine Q_v (opv_move rfl) rfl ?_
  refine Q_v ((opv_indexS rfl rfl (by omega)).as (v' := .int .u8 (byt s 1)) rfl) rfl ?_
  refine Q_v (opv_convW rfl (Go.IntWalk.i64_in _ (by have := byt_lt s 1; have := byt_ge s 1; omega))) rfl ?_
  refine Q_v ((opv_add64 rfl rfl (by omega)).as (v' := .int .i64 (word s 0 : Nat)) (congrArg (Value.int .i64) (by omega))) rfl ?_
  refine Q_v (opv_assign rfl) rfl ?_
  refine QL_nil ?_
  refine K_then ?_
  refine J_ret ?_
  exact K_ret1 rfl rfl () trivial (rfl) (Ent.refl _)

theorem two_at (s : ByteArray) (k : Nat) (h : k + 2 ≤ s.size) : FSpec Try.prog 52 #[.string (s.extract k s.size)] emp (fun _ : Unit => True) (fun _ => .int .i64 (word s k : Nat)) (fun _ => emp) := by
  have := two_spec (s.extract k s.size) (by rw [ext_size s _ _ (Nat.le_refl _)]; omega)
  rwa [word_ext (by omega), Nat.add_zero] at this

theorem RUDecode_spec (x : En) (s : ByteArray) (hs : s.size ≤ 1000000) : FSpec Try.prog 35 #[.string (bytesL x.a), .string (bytesL x.b), .string s] (emp) (fun _ : Unit => True) (fun _ => .tuple #[.agg (if (decU x s).2.2 = 0 then [.string (bytesL x.a), .string (bytesL x.b), .int .i64 (word s 0 : Nat), .int .i64 (word s 2 : Nat)] else [.string ⟨#[]⟩, .string ⟨#[]⟩, .int .i64 0, .int .i64 0]).toArray, .string (decU x s).2.1, .int .i64 (decU x s).2.2]) (fun _ => emp) := by
  have hz8 : (s.extract 8 s.size).size = s.size - 8 := ext_size s _ _ (Nat.le_refl _)
  have hz0 : (⟨#[0, 0]⟩ : ByteArray).size = 2 := rfl
  have hzs : 8 ≤ s.size → (summed s).size = s.size := fun h8 => by unfold summed; rw [ByteArray.size_append, ByteArray.size_append, ext_size s 0 6 (by omega), hz8, hz0]; omega
  refine FSpec.enter' Try.func35 rfl Try.ntmps35 rfl fun σ F => ?_
  refine J_emp ?_
  refine J_seq ?_
  refine J_region ?_
  refine L_x rfl (opx_alloc rfl) (fun b6 _ => ?_)
  refine L_v (opv_assign rfl) rfl ?_
  refine L_v (opv_assign rfl) rfl ?_
  refine L_nil ?_
  refine K_then ?_
  refine J_seq ?_
  refine J_seq ?_
  refine J_region ?_
  refine L_v (opv_move rfl) rfl ?_
  first
    | refine L_v (opv_lenL rfl) rfl ?_
    | refine L_v (opv_lenS rfl) rfl ?_
  refine L_v (opv_lss rfl rfl) rfl ?_
  refine L_nil ?_
  refine K_then ?_
  refine J_cond rfl (fun h1 => ?_) (fun h1 => ?_)
  · refine J_seq ?_
    refine J_region ?_
    refine L_v (opv_build rfl) rfl ?_
    refine L_x rfl (opx_store rfl rfl rfl (by simp [Value.oneCell'])) (fun _ _ => ?_)
    refine L_v (opv_assign rfl) rfl ?_
    refine L_v (opv_assign rfl) rfl ?_
    refine L_nil ?_
    refine K_then ?_
    refine J_ret ?_
    refine K_then_ret ?_
    exact K_ret3c rfl rfl rfl rfl rfl () trivial (by rw [show decU x s = (enz, ByteArray.empty, 10) from by unfold decU; (repeat' split) <;> first | rfl | (exfalso; omega)]; rfl) Ent.take
  · refine J_skip ?_
    refine K_then ?_
    refine J_seq ?_
    refine J_region ?_
    refine L_v (opv_move rfl) rfl ?_
    refine L_v ((opv_sliceSlo rfl rfl (by omega)).as (congrArg (fun k => Value.string (s.extract k s.size)) (show Int.toNat 4 = 4 from rfl))) rfl ?_
    refine L_x rfl (opx_call0 (two_at s 4 (by omega)) rfl rfl rfl) (fun _ _ => ?_)
    refine L_emp ?_
    refine L_v (opv_assign rfl) rfl ?_
    refine L_nil ?_
    refine K_then ?_
    refine J_seq ?_
    refine J_seq ?_
    refine J_region ?_
    refine L_v (opv_move rfl) rfl ?_
    refine L_v (opv_lss rfl rfl) rfl ?_
    refine L_v (opv_move rfl) rfl ?_
    refine L_gf rfl rfl (fun h2 => ?_) (fun h2 => ?_) (fun _ h => by cases h; rfl)
    · refine L_v (opv_move rfl) rfl ?_
      refine L_gf_on h2 rfl rfl ?_
      refine L_v (opv_gtr rfl rfl) rfl ?_
      refine L_v (opv_pick_f rfl h2 rfl) rfl ?_
      refine L_nil ?_
      refine K_then ?_
      refine J_cond rfl (fun h3 => ?_) (fun h3 => ?_)
      · refine J_seq ?_
        refine J_region ?_
        refine L_v (opv_build rfl) rfl ?_
        refine L_x rfl (opx_store rfl rfl rfl (by simp [Value.oneCell'])) (fun _ _ => ?_)
        refine L_v (opv_assign rfl) rfl ?_
        refine L_v (opv_assign rfl) rfl ?_
        refine L_nil ?_
        refine K_then ?_
        refine J_ret ?_
        refine K_then_ret ?_
        exact K_ret3c rfl rfl rfl rfl rfl () trivial (by rw [show decU x s = (enz, ByteArray.empty, 15) from by unfold decU; (repeat' split) <;> first | rfl | (exfalso; omega)]; rfl) Ent.take
      · refine J_skip ?_
        refine K_then ?_
        refine J_seq ?_
        refine J_seq ?_
        refine J_region ?_
        refine L_v (opv_move rfl) rfl ?_
        refine L_v (opv_move rfl) rfl ?_
        first
          | refine L_v (opv_lenL rfl) rfl ?_
          | refine L_v (opv_lenS rfl) rfl ?_
        refine L_v (opv_gtr rfl rfl) rfl ?_
        refine L_nil ?_
        refine K_then ?_
        refine J_cond rfl (fun h4 => ?_) (fun h4 => ?_)
        · refine J_seq ?_
          refine J_region ?_
          refine L_v (opv_build rfl) rfl ?_
          refine L_x rfl (opx_store rfl rfl rfl (by simp [Value.oneCell'])) (fun _ _ => ?_)
          refine L_v (opv_assign rfl) rfl ?_
          refine L_v (opv_assign rfl) rfl ?_
          refine L_nil ?_
          refine K_then ?_
          refine J_ret ?_
          refine K_then_ret ?_
          exact K_ret3c rfl rfl rfl rfl rfl () trivial (by rw [show decU x s = (enz, ByteArray.empty, 10) from by unfold decU; (repeat' split) <;> first | rfl | (exfalso; omega)]; rfl) Ent.take
        · refine J_skip ?_
          refine K_then ?_
          refine J_seq ?_
          refine J_seq ?_
          refine J_region ?_
          refine L_v (opv_move rfl) rfl ?_
          refine L_v (opv_move rfl) rfl ?_
          first
            | refine L_v (opv_lenL rfl) rfl ?_
            | refine L_v (opv_lenS rfl) rfl ?_
          refine L_v (opv_lss rfl rfl) rfl ?_
          refine L_nil ?_
          refine K_then ?_
          refine J_cond rfl (fun h5 => ?_) (fun h5 => ?_)
          · refine J_seq ?_
            refine J_region ?_
            refine L_v (opv_build rfl) rfl ?_
            refine L_x rfl (opx_store rfl rfl rfl (by simp [Value.oneCell'])) (fun _ _ => ?_)
            refine L_v (opv_assign rfl) rfl ?_
            refine L_v (opv_assign rfl) rfl ?_
            refine L_nil ?_
            refine K_then ?_
            refine J_ret ?_
            refine K_then_ret ?_
            exact K_ret3c rfl rfl rfl rfl rfl () trivial (by rw [show decU x s = (enz, ByteArray.empty, 11) from by unfold decU; (repeat' split) <;> first | rfl | (exfalso; omega)]; rfl) Ent.take
          · refine J_skip ?_
            refine K_then ?_
            refine J_seq ?_
            refine J_region ?_
            refine L_v (opv_move rfl) rfl ?_
            refine L_v ((opv_sliceSlo rfl rfl (by omega)).as (congrArg (fun k => Value.string (s.extract k s.size)) (show Int.toNat 6 = 6 from rfl))) rfl ?_
            refine L_x rfl (opx_call0 (two_at s 6 (by omega)) rfl rfl rfl) (fun _ _ => ?_)
            refine L_emp ?_
            refine L_v (opv_assign rfl) rfl ?_
            refine L_nil ?_
            refine K_then ?_
            refine J_seq ?_
            refine J_seq ?_
            refine J_quiet Try.mixed (by kernel_rfl) ?_
            refine Q_v (opv_move rfl) rfl ?_
            first
              | refine Q_v (opv_neq rfl rfl) rfl ?_
              | refine Q_v (opv_neqS rfl rfl) rfl ?_
              | refine Q_v (opv_neqNil rfl rfl) rfl ?_
              | refine Q_v (opv_neqB rfl rfl) rfl ?_
            refine Q_v (opv_move rfl) rfl ?_
            refine Q_gt rfl rfl (fun h6 => ?_) (fun h6 => ?_) (fun _ h => by cases h; rfl)
            · refine Q_v (opv_move rfl) rfl ?_
              refine Q_gt_on h6 rfl rfl ?_
              refine Q_v (opv_move rfl) rfl ?_
              refine Q_gt_on h6 rfl rfl ?_
              refine Q_v (opv_move rfl) rfl ?_
              refine Q_gt_on h6 rfl rfl ?_
              refine Q_v (opv_move rfl) rfl ?_
              refine Q_gt_on h6 rfl rfl ?_
              refine Q_v ((opv_sliceShi rfl rfl (by omega)).as (congrArg (fun k => Value.string (s.extract 0 k)) (show Int.toNat 6 = 6 from rfl))) rfl ?_
              refine Q_gt_on h6 rfl rfl ?_
              refine Q_v (opv_addS rfl rfl (by rw [ext_size s 0 6 (by omega)]; decide)) rfl ?_
              refine Q_gt_on h6 rfl rfl ?_
              refine Q_v (opv_move rfl) rfl ?_
              refine Q_gt_on h6 rfl rfl ?_
              refine Q_v ((opv_sliceSlo rfl rfl (by omega)).as (congrArg (fun k => Value.string (s.extract k s.size)) (show Int.toNat 8 = 8 from rfl))) rfl ?_
              refine Q_gt_on h6 rfl rfl ?_
              refine Q_v ((opv_addS rfl rfl (by rw [ByteArray.size_append, ext_size s 0 6 (by omega), hz0, hz8]; omega)).as (v' := .string (summed s)) rfl) rfl ?_
              refine Q_gt_on h6 rfl rfl ?_
              refine Q_call (RSum_spec x.a x.b (summed s) rfl rfl (by have := hzs (by omega); omega)) rfl rfl (fun _ _ => rfl) (fun _ _ => Ent.refl _) rfl ?_
              refine Q_gt_on h6 rfl rfl ?_
              first
                | refine Q_v (opv_neq rfl rfl) rfl ?_
                | refine Q_v (opv_neqS rfl rfl) rfl ?_
                | refine Q_v (opv_neqNil rfl rfl) rfl ?_
                | refine Q_v (opv_neqB rfl rfl) rfl ?_
              refine Q_v (opv_pick_t rfl h6 rfl) rfl ?_
              refine QL_nil ?_
              refine K_then ?_
              refine J_cond rfl (fun h7 => ?_) (fun h7 => ?_)
              · refine J_seq ?_
                refine J_region ?_
                refine L_v (opv_build rfl) rfl ?_
                refine L_x rfl (opx_store rfl rfl rfl (by simp [Value.oneCell'])) (fun _ _ => ?_)
                refine L_v (opv_assign rfl) rfl ?_
                refine L_v (opv_assign rfl) rfl ?_
                refine L_nil ?_
                refine K_then ?_
                refine J_ret ?_
                refine K_then_ret ?_
                exact K_ret3c rfl rfl rfl rfl rfl () trivial (by rw [show decU x s = (enz, ByteArray.empty, 12) from by unfold decU; (repeat' split) <;> first | rfl | (exfalso; omega)]; rfl) Ent.take
              · refine J_skip ?_
                refine K_then ?_
                refine J_seq ?_
                refine J_steps (emp) (emp) [] Try.mixed ?_
                refine R_pure 0 rfl (by kernel_rfl) (by kernel_rfl) (by kernel_rfl) (by kernel_rfl) (.inr ⟨_, Take.eq (A := emp)⟩) (opv_move rfl) rfl ?_
                refine R_pure 1 rfl (by kernel_rfl) (by kernel_rfl) (by kernel_rfl) (by kernel_rfl) (.inr ⟨_, Take.eq (A := emp)⟩) (opv_move rfl) rfl ?_
                refine R_pure 2 rfl (by kernel_rfl) (by kernel_rfl) (by kernel_rfl) (by kernel_rfl) (.inr ⟨_, Take.eq (A := emp)⟩) (opv_move rfl) rfl ?_
                refine R_pure 4 rfl (by kernel_rfl) (by kernel_rfl) (by kernel_rfl) (by kernel_rfl) (.inr ⟨_, Take.eq (A := emp)⟩) (opv_move rfl) rfl ?_
                refine R_pure 5 rfl (by kernel_rfl) (by kernel_rfl) (by kernel_rfl) (by kernel_rfl) (.inr ⟨_, Take.eq (A := emp)⟩) ((opv_sliceSlo rfl rfl (by omega)).as (congrArg (fun k => Value.string (s.extract k s.size)) (show Int.toNat 2 = 2 from rfl))) rfl ?_
                refine R_pure 8 rfl (by kernel_rfl) (by kernel_rfl) (by kernel_rfl) (by kernel_rfl) (.inr ⟨_, Take.eq (A := emp)⟩) (opv_move rfl) rfl ?_
                refine R_pure 9 rfl (by kernel_rfl) (by kernel_rfl) (by kernel_rfl) (by kernel_rfl) (.inr ⟨_, Take.eq (A := emp)⟩) ((opv_sliceSlo rfl rfl (by omega)).as (congrArg (fun k => Value.string (s.extract k s.size)) (show Int.toNat 8 = 8 from rfl))) rfl ?_
                refine R_only 3 rfl rfl (by kernel_rfl) (opx_call0 (two_spec s (by omega)) rfl rfl rfl) (fun _ _ => ⟨_, Take.eq (A := emp)⟩) (.inr fun _ _ => ⟨_, Take.eq (A := emp)⟩) (fun _ _ => ?_)
                refine Rg_emp ?_
                refine R_only 6 rfl rfl (by kernel_rfl) (opx_call0 (two_at s 2 (by omega)) rfl rfl rfl) (fun _ _ => ⟨_, Take.eq (A := emp)⟩) (.inr fun _ _ => ⟨_, Take.eq (A := emp)⟩) (fun _ _ => ?_)
                refine Rg_emp ?_
                refine R_pure 7 rfl (by kernel_rfl) (by kernel_rfl) (by kernel_rfl) (by kernel_rfl) (.inr ⟨_, Take.eq (A := emp)⟩) (opv_build rfl) rfl ?_
                refine R_only 10 rfl rfl (by kernel_rfl) (opx_store rfl rfl rfl (by simp [Value.oneCell'])) (fun _ _ => ⟨_, Take.eq (A := emp)⟩) (.inr fun _ _ => ⟨_, Take.eq (A := emp)⟩) (fun _ _ => ?_)
                refine R_pure 11 rfl (by kernel_rfl) (by kernel_rfl) (by kernel_rfl) (by kernel_rfl) (.inr ⟨_, Take.eq (A := emp)⟩) (opv_assign rfl) rfl ?_
                refine R_pure 12 rfl (by kernel_rfl) (by kernel_rfl) (by kernel_rfl) (by kernel_rfl) (.inr ⟨_, Take.eq (A := emp)⟩) (opv_assign rfl) rfl ?_
                refine R_done (by kernel_rfl) ?_
                refine K_then ?_
                refine J_ret ?_
                exact K_ret3c rfl rfl rfl rfl rfl () trivial (by rw [show decU x s = (x.at (word s 0) (word s 2), s.extract 8 s.size, 0) from by unfold decU; (repeat' split) <;> first | rfl | (exfalso; omega)]; rfl) Ent.take
            · refine Q_gt_off h6 rfl rfl ?_ (fun _ h => by cases h; rfl)
              refine Q_gt_off h6 rfl rfl ?_ (fun _ h => by cases h; rfl)
              refine Q_gt_off h6 rfl rfl ?_ (fun _ h => by cases h; rfl)
              refine Q_gt_off h6 rfl rfl ?_ (fun _ h => by cases h; rfl)
              refine Q_gt_off h6 rfl rfl ?_ (fun _ h => by cases h; rfl)
              refine Q_gt_off h6 rfl rfl ?_ (fun _ h => by cases h; rfl)
              refine Q_gt_off h6 rfl rfl ?_ (fun _ h => by cases h; rfl)
              refine Q_gt_off h6 rfl rfl ?_ (fun _ h => by cases h; rfl)
              refine Q_gt_off h6 rfl rfl ?_ (fun _ h => by cases h; rfl)
              refine Q_gt_off h6 rfl rfl ?_ (fun _ h => by cases h; rfl)
              refine Q_v (opv_pick_f rfl h6 rfl) rfl ?_
              refine QL_nil ?_
              refine K_then ?_
              refine J_cond_false rfl ?_
              refine J_skip ?_
              refine K_then ?_
              refine J_seq ?_
              refine J_steps (emp) (emp) [] Try.mixed ?_
              refine R_pure 0 rfl (by kernel_rfl) (by kernel_rfl) (by kernel_rfl) (by kernel_rfl) (.inr ⟨_, Take.eq (A := emp)⟩) (opv_move rfl) rfl ?_
              refine R_pure 1 rfl (by kernel_rfl) (by kernel_rfl) (by kernel_rfl) (by kernel_rfl) (.inr ⟨_, Take.eq (A := emp)⟩) (opv_move rfl) rfl ?_
              refine R_pure 2 rfl (by kernel_rfl) (by kernel_rfl) (by kernel_rfl) (by kernel_rfl) (.inr ⟨_, Take.eq (A := emp)⟩) (opv_move rfl) rfl ?_
              refine R_pure 4 rfl (by kernel_rfl) (by kernel_rfl) (by kernel_rfl) (by kernel_rfl) (.inr ⟨_, Take.eq (A := emp)⟩) (opv_move rfl) rfl ?_
              refine R_pure 5 rfl (by kernel_rfl) (by kernel_rfl) (by kernel_rfl) (by kernel_rfl) (.inr ⟨_, Take.eq (A := emp)⟩) ((opv_sliceSlo rfl rfl (by omega)).as (congrArg (fun k => Value.string (s.extract k s.size)) (show Int.toNat 2 = 2 from rfl))) rfl ?_
              refine R_pure 8 rfl (by kernel_rfl) (by kernel_rfl) (by kernel_rfl) (by kernel_rfl) (.inr ⟨_, Take.eq (A := emp)⟩) (opv_move rfl) rfl ?_
              refine R_pure 9 rfl (by kernel_rfl) (by kernel_rfl) (by kernel_rfl) (by kernel_rfl) (.inr ⟨_, Take.eq (A := emp)⟩) ((opv_sliceSlo rfl rfl (by omega)).as (congrArg (fun k => Value.string (s.extract k s.size)) (show Int.toNat 8 = 8 from rfl))) rfl ?_
              refine R_only 3 rfl rfl (by kernel_rfl) (opx_call0 (two_spec s (by omega)) rfl rfl rfl) (fun _ _ => ⟨_, Take.eq (A := emp)⟩) (.inr fun _ _ => ⟨_, Take.eq (A := emp)⟩) (fun _ _ => ?_)
              refine Rg_emp ?_
              refine R_only 6 rfl rfl (by kernel_rfl) (opx_call0 (two_at s 2 (by omega)) rfl rfl rfl) (fun _ _ => ⟨_, Take.eq (A := emp)⟩) (.inr fun _ _ => ⟨_, Take.eq (A := emp)⟩) (fun _ _ => ?_)
              refine Rg_emp ?_
              refine R_pure 7 rfl (by kernel_rfl) (by kernel_rfl) (by kernel_rfl) (by kernel_rfl) (.inr ⟨_, Take.eq (A := emp)⟩) (opv_build rfl) rfl ?_
              refine R_only 10 rfl rfl (by kernel_rfl) (opx_store rfl rfl rfl (by simp [Value.oneCell'])) (fun _ _ => ⟨_, Take.eq (A := emp)⟩) (.inr fun _ _ => ⟨_, Take.eq (A := emp)⟩) (fun _ _ => ?_)
              refine R_pure 11 rfl (by kernel_rfl) (by kernel_rfl) (by kernel_rfl) (by kernel_rfl) (.inr ⟨_, Take.eq (A := emp)⟩) (opv_assign rfl) rfl ?_
              refine R_pure 12 rfl (by kernel_rfl) (by kernel_rfl) (by kernel_rfl) (by kernel_rfl) (.inr ⟨_, Take.eq (A := emp)⟩) (opv_assign rfl) rfl ?_
              refine R_done (by kernel_rfl) ?_
              refine K_then ?_
              refine J_ret ?_
              exact K_ret3c rfl rfl rfl rfl rfl () trivial (by rw [show decU x s = (x.at (word s 0) (word s 2), s.extract 8 s.size, 0) from by unfold decU; (repeat' split) <;> first | rfl | (exfalso; omega)]; rfl) Ent.take
    · refine L_gf_off h2 rfl rfl ?_ (fun _ h => by cases h; rfl)
      refine L_v (opv_pick_t rfl h2 rfl) rfl ?_
      refine L_nil ?_
      refine K_then ?_
      refine J_cond_true rfl ?_
      refine J_seq ?_
      refine J_region ?_
      refine L_v (opv_build rfl) rfl ?_
      refine L_x rfl (opx_store rfl rfl rfl (by simp [Value.oneCell'])) (fun _ _ => ?_)
      refine L_v (opv_assign rfl) rfl ?_
      refine L_v (opv_assign rfl) rfl ?_
      refine L_nil ?_
      refine K_then ?_
      refine J_ret ?_
      refine K_then_ret ?_
      exact K_ret3c rfl rfl rfl rfl rfl () trivial (by rw [show decU x s = (enz, ByteArray.empty, 15) from by unfold decU; (repeat' split) <;> first | rfl | (exfalso; omega)]; rfl) Ent.take

structure Ip where
  i0 : Int
  i1 : Int
  i2 : Int
  i3 : Int
def encIp (x : Ip) : List Value := [.int .u8 x.i0, .int .u8 x.i1, .int .u8 x.i2, .int .u8 x.i3]
def okIp (x : Ip) : Prop := (Lit.int .u8 x.i0).wf = true ∧ (Lit.int .u8 x.i1).wf = true ∧ (Lit.int .u8 x.i2).wf = true ∧ (Lit.int .u8 x.i3).wf = true
abbrev ksIp : List CK := [.int .u8, .int .u8, .int .u8, .int .u8]
theorem encIp_len (x : Ip) : (encIp x).length = 4 := rfl
theorem decIp (cs : List Value) (h : Kinds ksIp cs) : ∃ x, cs = encIp x ∧ okIp x := by
  obtain ⟨hl, hk⟩ := h
  obtain ⟨v0, g0, x0, rfl, w0⟩ := hk 0 _ rfl
  obtain ⟨v1, g1, x1, rfl, w1⟩ := hk 1 _ rfl
  obtain ⟨v2, g2, x2, rfl, w2⟩ := hk 2 _ rfl
  obtain ⟨v3, g3, x3, rfl, w3⟩ := hk 3 _ rfl
  match cs, hl with
  | [c0, c1, c2, c3], _ =>
    simp only [List.getElem?_cons_zero, List.getElem?_cons_succ, Option.some.injEq] at g0 g1 g2 g3
    exact ⟨⟨x0, x1, x2, x3⟩, by simp only [encIp, *], ⟨w0, w1, w2, w3⟩⟩


theorem wfn {n : Nat} (h : n < 65536) : (Lit.int .i64 (n : Int)).wf = true := by
  have : -9223372036854775808 ≤ (n : Int) ∧ (n : Int) ≤ 9223372036854775807 := by omega
  simpa [Lit.wf, IntKind.min, IntKind.max, IntKind.signed, IntKind.bits] using this
def En.of (a b : Ip) : En := ⟨a.i0, a.i1, a.i2, a.i3, b.i0, b.i1, b.i2, b.i3, 0, 0⟩
theorem En.of_ok {a b : Ip} (ha : okIp a) (hb : okIp b) : okEn (En.of a b) := by
  obtain ⟨h0, h1, h2, h3⟩ := ha
  obtain ⟨g0, g1, g2, g3⟩ := hb
  exact ⟨h0, h1, h2, h3, g0, g1, g2, g3, wfn (n := 0) (by decide), wfn (n := 0) (by decide)⟩
theorem En.at_ok {x : En} (hx : okEn x) {f g : Nat} (hf : f < 65536) (hg : g < 65536) : okEn (x.at f g) := by
  obtain ⟨h0, h1, h2, h3, g0, g1, g2, g3, _, _⟩ := hx
  exact ⟨h0, h1, h2, h3, g0, g1, g2, g3, wfn hf, wfn hg⟩
theorem decU_bad {x : En} {s : ByteArray} (h : (decU x s).2.2 ≠ 0) : (decU x s).1 = enz ∧ (decU x s).2.1 = ByteArray.empty := by
  unfold decU at h ⊢
  (repeat' split) <;> first | exact ⟨rfl, rfl⟩ | skip
  all_goals (rename_i h1 h2 h3 h4 h5; exfalso; rw [if_neg h1, if_neg h2, if_neg h3, if_neg h4, if_neg h5] at h; exact h rfl)
theorem decU_ok {x : En} {s : ByteArray} (h : (decU x s).2.2 = 0) : decU x s = (x.at (word s 0) (word s 2), s.extract 8 s.size, 0) := by
  unfold decU at h ⊢
  (repeat' split) <;> first | rfl | skip
  · rename_i h1; rw [if_pos h1] at h; cases h
  · rename_i h1 h2; rw [if_neg h1, if_pos h2] at h; cases h
  · rename_i h1 h2 h3; rw [if_neg h1, if_neg h2, if_pos h3] at h; cases h
  · rename_i h1 h2 h3 h4; rw [if_neg h1, if_neg h2, if_neg h3, if_pos h4] at h; cases h
  · rename_i h1 h2 h3 h4 h5; rw [if_neg h1, if_neg h2, if_neg h3, if_neg h4, if_pos h5] at h; cases h


theorem UD_ok (x : En) (s : ByteArray) (hx : okEn x) (hs : s.size ≤ 1000000) (h : (decU x s).2.2 = 0) : FSpec Try.prog 34 #[.agg [.int .u8 x.a0, .int .u8 x.a1, .int .u8 x.a2, .int .u8 x.a3].toArray, .agg [.int .u8 x.b0, .int .u8 x.b1, .int .u8 x.b2, .int .u8 x.b3].toArray, .string s] emp (fun _ : Unit => True) (fun _ => .tuple #[.agg [.int .u8 x.a0, .int .u8 x.a1, .int .u8 x.a2, .int .u8 x.a3, .int .u8 x.b0, .int .u8 x.b1, .int .u8 x.b2, .int .u8 x.b3, .int .i64 (word s 0 : Nat), .int .i64 (word s 2 : Nat)].toArray, .string (s.extract 8 s.size), .int .i64 0]) (fun _ => emp) := by
  have := UDecode_spec x s hx hs
  rw [decU_ok h] at this
  exact this
theorem UD_bad (x : En) (s : ByteArray) (hx : okEn x) (hs : s.size ≤ 1000000) (h : (decU x s).2.2 ≠ 0) : FSpec Try.prog 34 #[.agg [.int .u8 x.a0, .int .u8 x.a1, .int .u8 x.a2, .int .u8 x.a3].toArray, .agg [.int .u8 x.b0, .int .u8 x.b1, .int .u8 x.b2, .int .u8 x.b3].toArray, .string s] emp (fun _ : Unit => True) (fun _ => .tuple #[.agg [.int .u8 0, .int .u8 0, .int .u8 0, .int .u8 0, .int .u8 0, .int .u8 0, .int .u8 0, .int .u8 0, .int .i64 0, .int .i64 0].toArray, .string ByteArray.empty, .int .i64 (decU x s).2.2]) (fun _ => emp) := by
  have := UDecode_spec x s hx hs
  rw [(decU_bad h).1, (decU_bad h).2] at this
  exact this
theorem RUD_ok (x : En) (s : ByteArray) (hs : s.size ≤ 1000000) (h : (decU x s).2.2 = 0) : FSpec Try.prog 35 #[.string (bytesL x.a), .string (bytesL x.b), .string s] emp (fun _ : Unit => True) (fun _ => .tuple #[.agg [.string (bytesL x.a), .string (bytesL x.b), .int .i64 (word s 0 : Nat), .int .i64 (word s 2 : Nat)].toArray, .string (s.extract 8 s.size), .int .i64 0]) (fun _ => emp) := by
  have := RUDecode_spec x s hs
  rw [if_pos h, decU_ok h] at this
  exact this
theorem RUD_bad (x : En) (s : ByteArray) (hs : s.size ≤ 1000000) (h : (decU x s).2.2 ≠ 0) : FSpec Try.prog 35 #[.string (bytesL x.a), .string (bytesL x.b), .string s] emp (fun _ : Unit => True) (fun _ => .tuple #[.agg [.string ⟨#[]⟩, .string ⟨#[]⟩, .int .i64 0, .int .i64 0].toArray, .string ByteArray.empty, .int .i64 (decU x s).2.2]) (fun _ => emp) := by
  have := RUDecode_spec x s hs
  rw [if_neg h, (decU_bad h).2] at this
  exact this

theorem UDS_big (W : World) (x : En) (s : ByteArray) (h : 9000 < s.size) : FSpec Try.prog 8 #[.agg [.int .u8 x.a0, .int .u8 x.a1, .int .u8 x.a2, .int .u8 x.a3].toArray, .agg [.int .u8 x.b0, .int .u8 x.b1, .int .u8 x.b2, .int .u8 x.b3].toArray, .string s] (old W) (fun _ : Unit => True) (fun _ => .bool true) (fun _ => old W) := by
  refine FSpec.enter' Try.func8 rfl Try.ntmps8 rfl fun σ F => ?_
  refine J_seq ?_
  refine J_region ?_
  refine L_x rfl (opx_box (l := [.int .u8 x.a0, .int .u8 x.a1, .int .u8 x.a2, .int .u8 x.a3]) rfl rfl) (fun b3 _ => ?_)
  refine L_x rfl (opx_box (l := [.int .u8 x.b0, .int .u8 x.b1, .int .u8 x.b2, .int .u8 x.b3]) rfl rfl) (fun b4 _ => ?_)
  refine L_v (opv_assign rfl) rfl ?_
  refine L_nil ?_
  refine K_then ?_
  refine J_seq ?_
  refine J_seq ?_
  refine J_region ?_
  refine L_v (opv_move rfl) rfl ?_
  first
    | refine L_v (opv_lenL rfl) rfl ?_
    | refine L_v (opv_lenS rfl) rfl ?_
  refine L_v ((opv_gtr rfl rfl).bool_t (by omega)) rfl ?_
  refine L_nil ?_
  refine K_then ?_
  refine J_cond_true rfl ?_
  refine J_seq ?_
  refine J_region ?_
  refine L_x rfl (opx_call0 (uawake_spec) rfl rfl rfl) (fun _ _ => ?_)
  refine L_emp ?_
  refine L_v (opv_assign rfl) rfl ?_
  refine L_nil ?_
  refine K_then ?_
  refine J_ret ?_
  refine K_then_ret ?_
  exact K_ret1 rfl rfl () trivial (rfl) Ent.take

theorem UDS_ok (W : World) (x : En) (s : ByteArray) (hx : okEn x) (hs : s.size ≤ 9000) (h : (decU x s).2.2 = 0) : FSpec Try.prog 8 #[.agg [.int .u8 x.a0, .int .u8 x.a1, .int .u8 x.a2, .int .u8 x.a3].toArray, .agg [.int .u8 x.b0, .int .u8 x.b1, .int .u8 x.b2, .int .u8 x.b3].toArray, .string s] (old W) (fun _ : Unit => True) (fun _ => .bool true) (fun _ => old W) := by
  refine FSpec.enter' Try.func8 rfl Try.ntmps8 rfl fun σ F => ?_
  refine J_seq ?_
  refine J_region ?_
  refine L_x rfl (opx_box (l := [.int .u8 x.a0, .int .u8 x.a1, .int .u8 x.a2, .int .u8 x.a3]) rfl rfl) (fun b3 _ => ?_)
  refine L_x rfl (opx_box (l := [.int .u8 x.b0, .int .u8 x.b1, .int .u8 x.b2, .int .u8 x.b3]) rfl rfl) (fun b4 _ => ?_)
  refine L_v (opv_assign rfl) rfl ?_
  refine L_nil ?_
  refine K_then ?_
  refine J_seq ?_
  refine J_seq ?_
  refine J_region ?_
  refine L_v (opv_move rfl) rfl ?_
  first
    | refine L_v (opv_lenL rfl) rfl ?_
    | refine L_v (opv_lenS rfl) rfl ?_
  refine L_v ((opv_gtr rfl rfl).bool_f (by omega)) rfl ?_
  refine L_nil ?_
  refine K_then ?_
  refine J_cond_false rfl ?_
  refine J_skip ?_
  refine K_then ?_
  refine J_seq ?_
  refine J_region ?_
  refine L_v (opv_loadS rfl) rfl ?_
  refine L_v (opv_loadS rfl) rfl ?_
  refine L_v (opv_move rfl) rfl ?_
  refine L_x rfl (opx_call0 (UD_ok x s hx (by omega) h) rfl rfl rfl) (fun _ _ => ?_)
  refine L_emp ?_
  refine L_v (opv_move rfl) rfl ?_
  refine L_v (opv_extract (v := .agg [.int .u8 x.a0, .int .u8 x.a1, .int .u8 x.a2, .int .u8 x.a3, .int .u8 x.b0, .int .u8 x.b1, .int .u8 x.b2, .int .u8 x.b3, .int .i64 (word s 0 : Nat), .int .i64 (word s 2 : Nat)].toArray) rfl rfl) rfl ?_
  refine L_v (opv_extract rfl rfl) rfl ?_
  refine L_v (opv_extract rfl rfl) rfl ?_
  refine L_x rfl (opx_alloc rfl) (fun b7 _ => ?_)
  refine L_x rfl (opx_store rfl rfl rfl (by simp [Value.oneCell'])) (fun _ _ => ?_)
  refine L_v (opv_assign rfl) rfl ?_
  refine L_v (opv_assign rfl) rfl ?_
  refine L_nil ?_
  refine K_then ?_
  refine J_seq ?_
  refine J_steps ((sep (cel b3 [.int .u8 x.a0, .int .u8 x.a1, .int .u8 x.a2, .int .u8 x.a3] 27) (cel b4 [.int .u8 x.b0, .int .u8 x.b1, .int .u8 x.b2, .int .u8 x.b3] 27))) ((sep (cel b3 [.int .u8 x.a0, .int .u8 x.a1, .int .u8 x.a2, .int .u8 x.a3] 27) (cel b4 [.int .u8 x.b0, .int .u8 x.b1, .int .u8 x.b2, .int .u8 x.b3] 27))) [] Try.mixed ?_
  refine R_take 0 rfl (by kernel_rfl) (by kernel_rfl) (by kernel_rfl) (by kernel_rfl) (by kernel_rfl) (opv_loadS rfl) rfl ?_
  refine R_take 2 rfl (by kernel_rfl) (by kernel_rfl) (by kernel_rfl) (by kernel_rfl) (by kernel_rfl) (opv_loadS rfl) rfl ?_
  refine R_pure 4 rfl (by kernel_rfl) (by kernel_rfl) (by kernel_rfl) (by kernel_rfl) (.inr ⟨_, Take.eq (A := (sep (cel b3 [.int .u8 x.a0, .int .u8 x.a1, .int .u8 x.a2, .int .u8 x.a3] 27) (cel b4 [.int .u8 x.b0, .int .u8 x.b1, .int .u8 x.b2, .int .u8 x.b3] 27)))⟩) (opv_move rfl) rfl ?_
  refine R_all [1, 10] (by kernel_rfl) rfl fun i hi => ?_
  simp only [List.mem_cons, List.not_mem_nil, or_false] at hi
  rcases hi with rfl | rfl
  · refine ⟨_, _, _, _, _, rfl, rfl, (opx_call0 (ip_spec x.a0 x.a1 x.a2 x.a3 hx.a) rfl rfl rfl), fun _ _ => ⟨⟨_, Take.eq (A := (sep (cel b3 [.int .u8 x.a0, .int .u8 x.a1, .int .u8 x.a2, .int .u8 x.a3] 27) (cel b4 [.int .u8 x.b0, .int .u8 x.b1, .int .u8 x.b2, .int .u8 x.b3] 27)))⟩, .inr ⟨_, Take.eq (A := (sep (cel b3 [.int .u8 x.a0, .int .u8 x.a1, .int .u8 x.a2, .int .u8 x.a3] 27) (cel b4 [.int .u8 x.b0, .int .u8 x.b1, .int .u8 x.b2, .int .u8 x.b3] 27)))⟩, ?_⟩⟩
    refine Rg_emp ?_
    refine R_all [3, 10] (by kernel_rfl) rfl fun i hi => ?_
    simp only [List.mem_cons, List.not_mem_nil, or_false] at hi
    rcases hi with rfl | rfl
    · refine ⟨_, _, _, _, _, rfl, rfl, (opx_call0 (ip_spec x.b0 x.b1 x.b2 x.b3 hx.b) rfl rfl rfl), fun _ _ => ⟨⟨_, Take.eq (A := (sep (cel b3 [.int .u8 x.a0, .int .u8 x.a1, .int .u8 x.a2, .int .u8 x.a3] 27) (cel b4 [.int .u8 x.b0, .int .u8 x.b1, .int .u8 x.b2, .int .u8 x.b3] 27)))⟩, .inr ⟨_, Take.eq (A := (sep (cel b3 [.int .u8 x.a0, .int .u8 x.a1, .int .u8 x.a2, .int .u8 x.a3] 27) (cel b4 [.int .u8 x.b0, .int .u8 x.b1, .int .u8 x.b2, .int .u8 x.b3] 27)))⟩, ?_⟩⟩
      refine Rg_emp ?_
      refine R_all [5, 10] (by kernel_rfl) rfl fun i hi => ?_
      simp only [List.mem_cons, List.not_mem_nil, or_false] at hi
      rcases hi with rfl | rfl
      · refine ⟨_, _, _, _, _, rfl, rfl, (opx_call0 (RUD_ok x s (by omega) h) rfl rfl rfl), fun _ _ => ⟨⟨_, Take.eq (A := (sep (cel b3 [.int .u8 x.a0, .int .u8 x.a1, .int .u8 x.a2, .int .u8 x.a3] 27) (cel b4 [.int .u8 x.b0, .int .u8 x.b1, .int .u8 x.b2, .int .u8 x.b3] 27)))⟩, .inr ⟨_, Take.eq (A := (sep (cel b3 [.int .u8 x.a0, .int .u8 x.a1, .int .u8 x.a2, .int .u8 x.a3] 27) (cel b4 [.int .u8 x.b0, .int .u8 x.b1, .int .u8 x.b2, .int .u8 x.b3] 27)))⟩, ?_⟩⟩
        refine Rg_emp ?_
        refine R_pure 6 rfl (by kernel_rfl) (by kernel_rfl) (by kernel_rfl) (by kernel_rfl) (.inr ⟨_, Take.eq (A := (sep (cel b3 [.int .u8 x.a0, .int .u8 x.a1, .int .u8 x.a2, .int .u8 x.a3] 27) (cel b4 [.int .u8 x.b0, .int .u8 x.b1, .int .u8 x.b2, .int .u8 x.b3] 27)))⟩) (opv_move rfl) rfl ?_
        refine R_pure 7 rfl (by kernel_rfl) (by kernel_rfl) (by kernel_rfl) (by kernel_rfl) (.inr ⟨_, Take.eq (A := (sep (cel b3 [.int .u8 x.a0, .int .u8 x.a1, .int .u8 x.a2, .int .u8 x.a3] 27) (cel b4 [.int .u8 x.b0, .int .u8 x.b1, .int .u8 x.b2, .int .u8 x.b3] 27)))⟩) (opv_extract (v := .agg [.string (bytesL x.a), .string (bytesL x.b), .int .i64 (word s 0 : Nat), .int .i64 (word s 2 : Nat)].toArray) rfl rfl) rfl ?_
        refine R_pure 8 rfl (by kernel_rfl) (by kernel_rfl) (by kernel_rfl) (by kernel_rfl) (.inr ⟨_, Take.eq (A := (sep (cel b3 [.int .u8 x.a0, .int .u8 x.a1, .int .u8 x.a2, .int .u8 x.a3] 27) (cel b4 [.int .u8 x.b0, .int .u8 x.b1, .int .u8 x.b2, .int .u8 x.b3] 27)))⟩) (opv_extract rfl rfl) rfl ?_
        refine R_pure 9 rfl (by kernel_rfl) (by kernel_rfl) (by kernel_rfl) (by kernel_rfl) (.inr ⟨_, Take.eq (A := (sep (cel b3 [.int .u8 x.a0, .int .u8 x.a1, .int .u8 x.a2, .int .u8 x.a3] 27) (cel b4 [.int .u8 x.b0, .int .u8 x.b1, .int .u8 x.b2, .int .u8 x.b3] 27)))⟩) (opv_extract rfl rfl) rfl ?_
        refine R_only 10 rfl rfl (by kernel_rfl) (opx_alloc rfl) (fun _ _ => ⟨_, Take.eq (A := (sep (cel b3 [.int .u8 x.a0, .int .u8 x.a1, .int .u8 x.a2, .int .u8 x.a3] 27) (cel b4 [.int .u8 x.b0, .int .u8 x.b1, .int .u8 x.b2, .int .u8 x.b3] 27)))⟩) (.inr fun _ _ => ⟨_, Take.eq (A := (sep (cel b3 [.int .u8 x.a0, .int .u8 x.a1, .int .u8 x.a2, .int .u8 x.a3] 27) (cel b4 [.int .u8 x.b0, .int .u8 x.b1, .int .u8 x.b2, .int .u8 x.b3] 27)))⟩) (fun b10 _ => ?_)
        refine R_only 11 rfl rfl (by kernel_rfl) (opx_store rfl rfl rfl (by simp [Value.oneCell'])) (fun _ _ => ⟨_, Take.eq (A := (sep (cel b3 [.int .u8 x.a0, .int .u8 x.a1, .int .u8 x.a2, .int .u8 x.a3] 27) (cel b4 [.int .u8 x.b0, .int .u8 x.b1, .int .u8 x.b2, .int .u8 x.b3] 27)))⟩) (.inr fun _ _ => ⟨_, Take.eq (A := (sep (cel b3 [.int .u8 x.a0, .int .u8 x.a1, .int .u8 x.a2, .int .u8 x.a3] 27) (cel b4 [.int .u8 x.b0, .int .u8 x.b1, .int .u8 x.b2, .int .u8 x.b3] 27)))⟩) (fun _ _ => ?_)
        refine R_pure 12 rfl (by kernel_rfl) (by kernel_rfl) (by kernel_rfl) (by kernel_rfl) (.inr ⟨_, Take.eq (A := (sep (cel b3 [.int .u8 x.a0, .int .u8 x.a1, .int .u8 x.a2, .int .u8 x.a3] 27) (cel b4 [.int .u8 x.b0, .int .u8 x.b1, .int .u8 x.b2, .int .u8 x.b3] 27)))⟩) (opv_assign rfl) rfl ?_
        refine R_pure 13 rfl (by kernel_rfl) (by kernel_rfl) (by kernel_rfl) (by kernel_rfl) (.inr ⟨_, Take.eq (A := (sep (cel b3 [.int .u8 x.a0, .int .u8 x.a1, .int .u8 x.a2, .int .u8 x.a3] 27) (cel b4 [.int .u8 x.b0, .int .u8 x.b1, .int .u8 x.b2, .int .u8 x.b3] 27)))⟩) (opv_assign rfl) rfl ?_
        refine R_done (by kernel_rfl) ?_
        refine K_then ?_
        refine J_seq ?_
        refine J_seq ?_
        refine J_region ?_
        refine L_v (opv_move rfl) rfl ?_
        refine L_v (opv_move rfl) rfl ?_
        refine L_v ((opv_neq rfl rfl).bool_f (fun n => n rfl)) rfl ?_
        refine L_v (opv_move rfl) rfl ?_
        refine L_gon rfl rfl rfl ?_
        refine L_v (opv_move rfl) rfl ?_
        refine L_gon rfl rfl rfl ?_
        refine L_v (opv_move rfl) rfl ?_
        refine L_gon rfl rfl rfl ?_
        refine L_v ((opv_neqS rfl rfl).bool_f (fun n => n rfl)) rfl ?_
        first
          | refine L_v (opv_pick_tt rfl rfl) rfl ?_
          | refine L_v (opv_pick_ff rfl rfl) rfl ?_
          | refine L_v (opv_pick rfl rfl rfl) rfl ?_
        refine L_nil ?_
        refine K_then ?_
        refine J_cond_false rfl ?_
        refine J_skip ?_
        refine K_then ?_
        refine J_seq ?_
        refine J_seq ?_
        refine J_region ?_
        refine L_v (opv_move rfl) rfl ?_
        refine L_v ((opv_neq rfl rfl).bool_f (fun n => n rfl)) rfl ?_
        refine L_nil ?_
        refine K_then ?_
        refine J_cond_false rfl ?_
        refine J_skip ?_
        refine K_then ?_
        refine J_seq ?_
        refine J_quiet Try.mixed (by kernel_rfl) ?_
        refine Q_v (opv_loadS rfl) rfl ?_
        refine Q_call (plain_spec (x.at (word s 0) (word s 2)) (En.at_ok hx (word_lt s 0) (word_lt s 2))) rfl rfl (fun _ _ => rfl) (fun _ _ => Ent.refl _) rfl ?_
        refine Q_v (opv_loadS rfl) rfl ?_
        refine Q_v ((opv_eqlF rfl rfl (by simp [Shape, CK.sh]) (by simp [Shape, CK.sh])).bool_t rfl) rfl ?_
        refine Q_v (opv_move rfl) rfl ?_
        refine Q_gon rfl rfl rfl ?_
        refine Q_call (uawake_spec) rfl rfl (fun _ _ => rfl) (fun _ _ => Ent.refl _) rfl ?_
        first
          | refine Q_v (opv_pick_tt rfl rfl) rfl ?_
          | refine Q_v (opv_pick_ff rfl rfl) rfl ?_
          | refine Q_v (opv_pick rfl rfl rfl) rfl ?_
        refine Q_v (opv_assign rfl) rfl ?_
        refine QL_nil ?_
        refine K_then ?_
        refine J_ret ?_
        exact K_ret1 rfl rfl () trivial (rfl) Ent.take
      · refine ⟨_, _, _, _, _, rfl, rfl, (opx_alloc rfl), fun b10 _ => ⟨⟨_, Take.eq (A := (sep (cel b3 [.int .u8 x.a0, .int .u8 x.a1, .int .u8 x.a2, .int .u8 x.a3] 27) (cel b4 [.int .u8 x.b0, .int .u8 x.b1, .int .u8 x.b2, .int .u8 x.b3] 27)))⟩, .inr ⟨_, Take.eq (A := (sep (cel b3 [.int .u8 x.a0, .int .u8 x.a1, .int .u8 x.a2, .int .u8 x.a3] 27) (cel b4 [.int .u8 x.b0, .int .u8 x.b1, .int .u8 x.b2, .int .u8 x.b3] 27)))⟩, ?_⟩⟩
        refine R_only 5 rfl rfl (by kernel_rfl) (opx_call0 (RUD_ok x s (by omega) h) rfl rfl rfl) (fun _ _ => ⟨_, Take.eq (A := (sep (cel b3 [.int .u8 x.a0, .int .u8 x.a1, .int .u8 x.a2, .int .u8 x.a3] 27) (cel b4 [.int .u8 x.b0, .int .u8 x.b1, .int .u8 x.b2, .int .u8 x.b3] 27)))⟩) (.inr fun _ _ => ⟨_, Take.eq (A := (sep (cel b3 [.int .u8 x.a0, .int .u8 x.a1, .int .u8 x.a2, .int .u8 x.a3] 27) (cel b4 [.int .u8 x.b0, .int .u8 x.b1, .int .u8 x.b2, .int .u8 x.b3] 27)))⟩) (fun _ _ => ?_)
        refine Rg_emp ?_
        refine R_pure 6 rfl (by kernel_rfl) (by kernel_rfl) (by kernel_rfl) (by kernel_rfl) (.inr ⟨_, Take.eq (A := (sep (cel b3 [.int .u8 x.a0, .int .u8 x.a1, .int .u8 x.a2, .int .u8 x.a3] 27) (cel b4 [.int .u8 x.b0, .int .u8 x.b1, .int .u8 x.b2, .int .u8 x.b3] 27)))⟩) (opv_move rfl) rfl ?_
        refine R_pure 7 rfl (by kernel_rfl) (by kernel_rfl) (by kernel_rfl) (by kernel_rfl) (.inr ⟨_, Take.eq (A := (sep (cel b3 [.int .u8 x.a0, .int .u8 x.a1, .int .u8 x.a2, .int .u8 x.a3] 27) (cel b4 [.int .u8 x.b0, .int .u8 x.b1, .int .u8 x.b2, .int .u8 x.b3] 27)))⟩) (opv_extract (v := .agg [.string (bytesL x.a), .string (bytesL x.b), .int .i64 (word s 0 : Nat), .int .i64 (word s 2 : Nat)].toArray) rfl rfl) rfl ?_
        refine R_pure 8 rfl (by kernel_rfl) (by kernel_rfl) (by kernel_rfl) (by kernel_rfl) (.inr ⟨_, Take.eq (A := (sep (cel b3 [.int .u8 x.a0, .int .u8 x.a1, .int .u8 x.a2, .int .u8 x.a3] 27) (cel b4 [.int .u8 x.b0, .int .u8 x.b1, .int .u8 x.b2, .int .u8 x.b3] 27)))⟩) (opv_extract rfl rfl) rfl ?_
        refine R_pure 9 rfl (by kernel_rfl) (by kernel_rfl) (by kernel_rfl) (by kernel_rfl) (.inr ⟨_, Take.eq (A := (sep (cel b3 [.int .u8 x.a0, .int .u8 x.a1, .int .u8 x.a2, .int .u8 x.a3] 27) (cel b4 [.int .u8 x.b0, .int .u8 x.b1, .int .u8 x.b2, .int .u8 x.b3] 27)))⟩) (opv_extract rfl rfl) rfl ?_
        refine R_only 11 rfl rfl (by kernel_rfl) (opx_store rfl rfl rfl (by simp [Value.oneCell'])) (fun _ _ => ⟨_, Take.eq (A := (sep (cel b3 [.int .u8 x.a0, .int .u8 x.a1, .int .u8 x.a2, .int .u8 x.a3] 27) (cel b4 [.int .u8 x.b0, .int .u8 x.b1, .int .u8 x.b2, .int .u8 x.b3] 27)))⟩) (.inr fun _ _ => ⟨_, Take.eq (A := (sep (cel b3 [.int .u8 x.a0, .int .u8 x.a1, .int .u8 x.a2, .int .u8 x.a3] 27) (cel b4 [.int .u8 x.b0, .int .u8 x.b1, .int .u8 x.b2, .int .u8 x.b3] 27)))⟩) (fun _ _ => ?_)
        refine R_pure 12 rfl (by kernel_rfl) (by kernel_rfl) (by kernel_rfl) (by kernel_rfl) (.inr ⟨_, Take.eq (A := (sep (cel b3 [.int .u8 x.a0, .int .u8 x.a1, .int .u8 x.a2, .int .u8 x.a3] 27) (cel b4 [.int .u8 x.b0, .int .u8 x.b1, .int .u8 x.b2, .int .u8 x.b3] 27)))⟩) (opv_assign rfl) rfl ?_
        refine R_pure 13 rfl (by kernel_rfl) (by kernel_rfl) (by kernel_rfl) (by kernel_rfl) (.inr ⟨_, Take.eq (A := (sep (cel b3 [.int .u8 x.a0, .int .u8 x.a1, .int .u8 x.a2, .int .u8 x.a3] 27) (cel b4 [.int .u8 x.b0, .int .u8 x.b1, .int .u8 x.b2, .int .u8 x.b3] 27)))⟩) (opv_assign rfl) rfl ?_
        refine R_done (by kernel_rfl) ?_
        refine K_then ?_
        refine J_seq ?_
        refine J_seq ?_
        refine J_region ?_
        refine L_v (opv_move rfl) rfl ?_
        refine L_v (opv_move rfl) rfl ?_
        refine L_v ((opv_neq rfl rfl).bool_f (fun n => n rfl)) rfl ?_
        refine L_v (opv_move rfl) rfl ?_
        refine L_gon rfl rfl rfl ?_
        refine L_v (opv_move rfl) rfl ?_
        refine L_gon rfl rfl rfl ?_
        refine L_v (opv_move rfl) rfl ?_
        refine L_gon rfl rfl rfl ?_
        refine L_v ((opv_neqS rfl rfl).bool_f (fun n => n rfl)) rfl ?_
        first
          | refine L_v (opv_pick_tt rfl rfl) rfl ?_
          | refine L_v (opv_pick_ff rfl rfl) rfl ?_
          | refine L_v (opv_pick rfl rfl rfl) rfl ?_
        refine L_nil ?_
        refine K_then ?_
        refine J_cond_false rfl ?_
        refine J_skip ?_
        refine K_then ?_
        refine J_seq ?_
        refine J_seq ?_
        refine J_region ?_
        refine L_v (opv_move rfl) rfl ?_
        refine L_v ((opv_neq rfl rfl).bool_f (fun n => n rfl)) rfl ?_
        refine L_nil ?_
        refine K_then ?_
        refine J_cond_false rfl ?_
        refine J_skip ?_
        refine K_then ?_
        refine J_seq ?_
        refine J_quiet Try.mixed (by kernel_rfl) ?_
        refine Q_v (opv_loadS rfl) rfl ?_
        refine Q_call (plain_spec (x.at (word s 0) (word s 2)) (En.at_ok hx (word_lt s 0) (word_lt s 2))) rfl rfl (fun _ _ => rfl) (fun _ _ => Ent.refl _) rfl ?_
        refine Q_v (opv_loadS rfl) rfl ?_
        refine Q_v ((opv_eqlF rfl rfl (by simp [Shape, CK.sh]) (by simp [Shape, CK.sh])).bool_t rfl) rfl ?_
        refine Q_v (opv_move rfl) rfl ?_
        refine Q_gon rfl rfl rfl ?_
        refine Q_call (uawake_spec) rfl rfl (fun _ _ => rfl) (fun _ _ => Ent.refl _) rfl ?_
        first
          | refine Q_v (opv_pick_tt rfl rfl) rfl ?_
          | refine Q_v (opv_pick_ff rfl rfl) rfl ?_
          | refine Q_v (opv_pick rfl rfl rfl) rfl ?_
        refine Q_v (opv_assign rfl) rfl ?_
        refine QL_nil ?_
        refine K_then ?_
        refine J_ret ?_
        exact K_ret1 rfl rfl () trivial (rfl) Ent.take
    · refine ⟨_, _, _, _, _, rfl, rfl, (opx_alloc rfl), fun b10 _ => ⟨⟨_, Take.eq (A := (sep (cel b3 [.int .u8 x.a0, .int .u8 x.a1, .int .u8 x.a2, .int .u8 x.a3] 27) (cel b4 [.int .u8 x.b0, .int .u8 x.b1, .int .u8 x.b2, .int .u8 x.b3] 27)))⟩, .inr ⟨_, Take.eq (A := (sep (cel b3 [.int .u8 x.a0, .int .u8 x.a1, .int .u8 x.a2, .int .u8 x.a3] 27) (cel b4 [.int .u8 x.b0, .int .u8 x.b1, .int .u8 x.b2, .int .u8 x.b3] 27)))⟩, ?_⟩⟩
      refine R_only 3 rfl rfl (by kernel_rfl) (opx_call0 (ip_spec x.b0 x.b1 x.b2 x.b3 hx.b) rfl rfl rfl) (fun _ _ => ⟨_, Take.eq (A := (sep (cel b3 [.int .u8 x.a0, .int .u8 x.a1, .int .u8 x.a2, .int .u8 x.a3] 27) (cel b4 [.int .u8 x.b0, .int .u8 x.b1, .int .u8 x.b2, .int .u8 x.b3] 27)))⟩) (.inr fun _ _ => ⟨_, Take.eq (A := (sep (cel b3 [.int .u8 x.a0, .int .u8 x.a1, .int .u8 x.a2, .int .u8 x.a3] 27) (cel b4 [.int .u8 x.b0, .int .u8 x.b1, .int .u8 x.b2, .int .u8 x.b3] 27)))⟩) (fun _ _ => ?_)
      refine Rg_emp ?_
      refine R_only 5 rfl rfl (by kernel_rfl) (opx_call0 (RUD_ok x s (by omega) h) rfl rfl rfl) (fun _ _ => ⟨_, Take.eq (A := (sep (cel b3 [.int .u8 x.a0, .int .u8 x.a1, .int .u8 x.a2, .int .u8 x.a3] 27) (cel b4 [.int .u8 x.b0, .int .u8 x.b1, .int .u8 x.b2, .int .u8 x.b3] 27)))⟩) (.inr fun _ _ => ⟨_, Take.eq (A := (sep (cel b3 [.int .u8 x.a0, .int .u8 x.a1, .int .u8 x.a2, .int .u8 x.a3] 27) (cel b4 [.int .u8 x.b0, .int .u8 x.b1, .int .u8 x.b2, .int .u8 x.b3] 27)))⟩) (fun _ _ => ?_)
      refine Rg_emp ?_
      refine R_pure 6 rfl (by kernel_rfl) (by kernel_rfl) (by kernel_rfl) (by kernel_rfl) (.inr ⟨_, Take.eq (A := (sep (cel b3 [.int .u8 x.a0, .int .u8 x.a1, .int .u8 x.a2, .int .u8 x.a3] 27) (cel b4 [.int .u8 x.b0, .int .u8 x.b1, .int .u8 x.b2, .int .u8 x.b3] 27)))⟩) (opv_move rfl) rfl ?_
      refine R_pure 7 rfl (by kernel_rfl) (by kernel_rfl) (by kernel_rfl) (by kernel_rfl) (.inr ⟨_, Take.eq (A := (sep (cel b3 [.int .u8 x.a0, .int .u8 x.a1, .int .u8 x.a2, .int .u8 x.a3] 27) (cel b4 [.int .u8 x.b0, .int .u8 x.b1, .int .u8 x.b2, .int .u8 x.b3] 27)))⟩) (opv_extract (v := .agg [.string (bytesL x.a), .string (bytesL x.b), .int .i64 (word s 0 : Nat), .int .i64 (word s 2 : Nat)].toArray) rfl rfl) rfl ?_
      refine R_pure 8 rfl (by kernel_rfl) (by kernel_rfl) (by kernel_rfl) (by kernel_rfl) (.inr ⟨_, Take.eq (A := (sep (cel b3 [.int .u8 x.a0, .int .u8 x.a1, .int .u8 x.a2, .int .u8 x.a3] 27) (cel b4 [.int .u8 x.b0, .int .u8 x.b1, .int .u8 x.b2, .int .u8 x.b3] 27)))⟩) (opv_extract rfl rfl) rfl ?_
      refine R_pure 9 rfl (by kernel_rfl) (by kernel_rfl) (by kernel_rfl) (by kernel_rfl) (.inr ⟨_, Take.eq (A := (sep (cel b3 [.int .u8 x.a0, .int .u8 x.a1, .int .u8 x.a2, .int .u8 x.a3] 27) (cel b4 [.int .u8 x.b0, .int .u8 x.b1, .int .u8 x.b2, .int .u8 x.b3] 27)))⟩) (opv_extract rfl rfl) rfl ?_
      refine R_only 11 rfl rfl (by kernel_rfl) (opx_store rfl rfl rfl (by simp [Value.oneCell'])) (fun _ _ => ⟨_, Take.eq (A := (sep (cel b3 [.int .u8 x.a0, .int .u8 x.a1, .int .u8 x.a2, .int .u8 x.a3] 27) (cel b4 [.int .u8 x.b0, .int .u8 x.b1, .int .u8 x.b2, .int .u8 x.b3] 27)))⟩) (.inr fun _ _ => ⟨_, Take.eq (A := (sep (cel b3 [.int .u8 x.a0, .int .u8 x.a1, .int .u8 x.a2, .int .u8 x.a3] 27) (cel b4 [.int .u8 x.b0, .int .u8 x.b1, .int .u8 x.b2, .int .u8 x.b3] 27)))⟩) (fun _ _ => ?_)
      refine R_pure 12 rfl (by kernel_rfl) (by kernel_rfl) (by kernel_rfl) (by kernel_rfl) (.inr ⟨_, Take.eq (A := (sep (cel b3 [.int .u8 x.a0, .int .u8 x.a1, .int .u8 x.a2, .int .u8 x.a3] 27) (cel b4 [.int .u8 x.b0, .int .u8 x.b1, .int .u8 x.b2, .int .u8 x.b3] 27)))⟩) (opv_assign rfl) rfl ?_
      refine R_pure 13 rfl (by kernel_rfl) (by kernel_rfl) (by kernel_rfl) (by kernel_rfl) (.inr ⟨_, Take.eq (A := (sep (cel b3 [.int .u8 x.a0, .int .u8 x.a1, .int .u8 x.a2, .int .u8 x.a3] 27) (cel b4 [.int .u8 x.b0, .int .u8 x.b1, .int .u8 x.b2, .int .u8 x.b3] 27)))⟩) (opv_assign rfl) rfl ?_
      refine R_done (by kernel_rfl) ?_
      refine K_then ?_
      refine J_seq ?_
      refine J_seq ?_
      refine J_region ?_
      refine L_v (opv_move rfl) rfl ?_
      refine L_v (opv_move rfl) rfl ?_
      refine L_v ((opv_neq rfl rfl).bool_f (fun n => n rfl)) rfl ?_
      refine L_v (opv_move rfl) rfl ?_
      refine L_gon rfl rfl rfl ?_
      refine L_v (opv_move rfl) rfl ?_
      refine L_gon rfl rfl rfl ?_
      refine L_v (opv_move rfl) rfl ?_
      refine L_gon rfl rfl rfl ?_
      refine L_v ((opv_neqS rfl rfl).bool_f (fun n => n rfl)) rfl ?_
      first
        | refine L_v (opv_pick_tt rfl rfl) rfl ?_
        | refine L_v (opv_pick_ff rfl rfl) rfl ?_
        | refine L_v (opv_pick rfl rfl rfl) rfl ?_
      refine L_nil ?_
      refine K_then ?_
      refine J_cond_false rfl ?_
      refine J_skip ?_
      refine K_then ?_
      refine J_seq ?_
      refine J_seq ?_
      refine J_region ?_
      refine L_v (opv_move rfl) rfl ?_
      refine L_v ((opv_neq rfl rfl).bool_f (fun n => n rfl)) rfl ?_
      refine L_nil ?_
      refine K_then ?_
      refine J_cond_false rfl ?_
      refine J_skip ?_
      refine K_then ?_
      refine J_seq ?_
      refine J_quiet Try.mixed (by kernel_rfl) ?_
      refine Q_v (opv_loadS rfl) rfl ?_
      refine Q_call (plain_spec (x.at (word s 0) (word s 2)) (En.at_ok hx (word_lt s 0) (word_lt s 2))) rfl rfl (fun _ _ => rfl) (fun _ _ => Ent.refl _) rfl ?_
      refine Q_v (opv_loadS rfl) rfl ?_
      refine Q_v ((opv_eqlF rfl rfl (by simp [Shape, CK.sh]) (by simp [Shape, CK.sh])).bool_t rfl) rfl ?_
      refine Q_v (opv_move rfl) rfl ?_
      refine Q_gon rfl rfl rfl ?_
      refine Q_call (uawake_spec) rfl rfl (fun _ _ => rfl) (fun _ _ => Ent.refl _) rfl ?_
      first
        | refine Q_v (opv_pick_tt rfl rfl) rfl ?_
        | refine Q_v (opv_pick_ff rfl rfl) rfl ?_
        | refine Q_v (opv_pick rfl rfl rfl) rfl ?_
      refine Q_v (opv_assign rfl) rfl ?_
      refine QL_nil ?_
      refine K_then ?_
      refine J_ret ?_
      exact K_ret1 rfl rfl () trivial (rfl) Ent.take
  · refine ⟨_, _, _, _, _, rfl, rfl, (opx_alloc rfl), fun b10 _ => ⟨⟨_, Take.eq (A := (sep (cel b3 [.int .u8 x.a0, .int .u8 x.a1, .int .u8 x.a2, .int .u8 x.a3] 27) (cel b4 [.int .u8 x.b0, .int .u8 x.b1, .int .u8 x.b2, .int .u8 x.b3] 27)))⟩, .inr ⟨_, Take.eq (A := (sep (cel b3 [.int .u8 x.a0, .int .u8 x.a1, .int .u8 x.a2, .int .u8 x.a3] 27) (cel b4 [.int .u8 x.b0, .int .u8 x.b1, .int .u8 x.b2, .int .u8 x.b3] 27)))⟩, ?_⟩⟩
    refine R_only 1 rfl rfl (by kernel_rfl) (opx_call0 (ip_spec x.a0 x.a1 x.a2 x.a3 hx.a) rfl rfl rfl) (fun _ _ => ⟨_, Take.eq (A := (sep (cel b3 [.int .u8 x.a0, .int .u8 x.a1, .int .u8 x.a2, .int .u8 x.a3] 27) (cel b4 [.int .u8 x.b0, .int .u8 x.b1, .int .u8 x.b2, .int .u8 x.b3] 27)))⟩) (.inr fun _ _ => ⟨_, Take.eq (A := (sep (cel b3 [.int .u8 x.a0, .int .u8 x.a1, .int .u8 x.a2, .int .u8 x.a3] 27) (cel b4 [.int .u8 x.b0, .int .u8 x.b1, .int .u8 x.b2, .int .u8 x.b3] 27)))⟩) (fun _ _ => ?_)
    refine Rg_emp ?_
    refine R_only 3 rfl rfl (by kernel_rfl) (opx_call0 (ip_spec x.b0 x.b1 x.b2 x.b3 hx.b) rfl rfl rfl) (fun _ _ => ⟨_, Take.eq (A := (sep (cel b3 [.int .u8 x.a0, .int .u8 x.a1, .int .u8 x.a2, .int .u8 x.a3] 27) (cel b4 [.int .u8 x.b0, .int .u8 x.b1, .int .u8 x.b2, .int .u8 x.b3] 27)))⟩) (.inr fun _ _ => ⟨_, Take.eq (A := (sep (cel b3 [.int .u8 x.a0, .int .u8 x.a1, .int .u8 x.a2, .int .u8 x.a3] 27) (cel b4 [.int .u8 x.b0, .int .u8 x.b1, .int .u8 x.b2, .int .u8 x.b3] 27)))⟩) (fun _ _ => ?_)
    refine Rg_emp ?_
    refine R_only 5 rfl rfl (by kernel_rfl) (opx_call0 (RUD_ok x s (by omega) h) rfl rfl rfl) (fun _ _ => ⟨_, Take.eq (A := (sep (cel b3 [.int .u8 x.a0, .int .u8 x.a1, .int .u8 x.a2, .int .u8 x.a3] 27) (cel b4 [.int .u8 x.b0, .int .u8 x.b1, .int .u8 x.b2, .int .u8 x.b3] 27)))⟩) (.inr fun _ _ => ⟨_, Take.eq (A := (sep (cel b3 [.int .u8 x.a0, .int .u8 x.a1, .int .u8 x.a2, .int .u8 x.a3] 27) (cel b4 [.int .u8 x.b0, .int .u8 x.b1, .int .u8 x.b2, .int .u8 x.b3] 27)))⟩) (fun _ _ => ?_)
    refine Rg_emp ?_
    refine R_pure 6 rfl (by kernel_rfl) (by kernel_rfl) (by kernel_rfl) (by kernel_rfl) (.inr ⟨_, Take.eq (A := (sep (cel b3 [.int .u8 x.a0, .int .u8 x.a1, .int .u8 x.a2, .int .u8 x.a3] 27) (cel b4 [.int .u8 x.b0, .int .u8 x.b1, .int .u8 x.b2, .int .u8 x.b3] 27)))⟩) (opv_move rfl) rfl ?_
    refine R_pure 7 rfl (by kernel_rfl) (by kernel_rfl) (by kernel_rfl) (by kernel_rfl) (.inr ⟨_, Take.eq (A := (sep (cel b3 [.int .u8 x.a0, .int .u8 x.a1, .int .u8 x.a2, .int .u8 x.a3] 27) (cel b4 [.int .u8 x.b0, .int .u8 x.b1, .int .u8 x.b2, .int .u8 x.b3] 27)))⟩) (opv_extract (v := .agg [.string (bytesL x.a), .string (bytesL x.b), .int .i64 (word s 0 : Nat), .int .i64 (word s 2 : Nat)].toArray) rfl rfl) rfl ?_
    refine R_pure 8 rfl (by kernel_rfl) (by kernel_rfl) (by kernel_rfl) (by kernel_rfl) (.inr ⟨_, Take.eq (A := (sep (cel b3 [.int .u8 x.a0, .int .u8 x.a1, .int .u8 x.a2, .int .u8 x.a3] 27) (cel b4 [.int .u8 x.b0, .int .u8 x.b1, .int .u8 x.b2, .int .u8 x.b3] 27)))⟩) (opv_extract rfl rfl) rfl ?_
    refine R_pure 9 rfl (by kernel_rfl) (by kernel_rfl) (by kernel_rfl) (by kernel_rfl) (.inr ⟨_, Take.eq (A := (sep (cel b3 [.int .u8 x.a0, .int .u8 x.a1, .int .u8 x.a2, .int .u8 x.a3] 27) (cel b4 [.int .u8 x.b0, .int .u8 x.b1, .int .u8 x.b2, .int .u8 x.b3] 27)))⟩) (opv_extract rfl rfl) rfl ?_
    refine R_only 11 rfl rfl (by kernel_rfl) (opx_store rfl rfl rfl (by simp [Value.oneCell'])) (fun _ _ => ⟨_, Take.eq (A := (sep (cel b3 [.int .u8 x.a0, .int .u8 x.a1, .int .u8 x.a2, .int .u8 x.a3] 27) (cel b4 [.int .u8 x.b0, .int .u8 x.b1, .int .u8 x.b2, .int .u8 x.b3] 27)))⟩) (.inr fun _ _ => ⟨_, Take.eq (A := (sep (cel b3 [.int .u8 x.a0, .int .u8 x.a1, .int .u8 x.a2, .int .u8 x.a3] 27) (cel b4 [.int .u8 x.b0, .int .u8 x.b1, .int .u8 x.b2, .int .u8 x.b3] 27)))⟩) (fun _ _ => ?_)
    refine R_pure 12 rfl (by kernel_rfl) (by kernel_rfl) (by kernel_rfl) (by kernel_rfl) (.inr ⟨_, Take.eq (A := (sep (cel b3 [.int .u8 x.a0, .int .u8 x.a1, .int .u8 x.a2, .int .u8 x.a3] 27) (cel b4 [.int .u8 x.b0, .int .u8 x.b1, .int .u8 x.b2, .int .u8 x.b3] 27)))⟩) (opv_assign rfl) rfl ?_
    refine R_pure 13 rfl (by kernel_rfl) (by kernel_rfl) (by kernel_rfl) (by kernel_rfl) (.inr ⟨_, Take.eq (A := (sep (cel b3 [.int .u8 x.a0, .int .u8 x.a1, .int .u8 x.a2, .int .u8 x.a3] 27) (cel b4 [.int .u8 x.b0, .int .u8 x.b1, .int .u8 x.b2, .int .u8 x.b3] 27)))⟩) (opv_assign rfl) rfl ?_
    refine R_done (by kernel_rfl) ?_
    refine K_then ?_
    refine J_seq ?_
    refine J_seq ?_
    refine J_region ?_
    refine L_v (opv_move rfl) rfl ?_
    refine L_v (opv_move rfl) rfl ?_
    refine L_v ((opv_neq rfl rfl).bool_f (fun n => n rfl)) rfl ?_
    refine L_v (opv_move rfl) rfl ?_
    refine L_gon rfl rfl rfl ?_
    refine L_v (opv_move rfl) rfl ?_
    refine L_gon rfl rfl rfl ?_
    refine L_v (opv_move rfl) rfl ?_
    refine L_gon rfl rfl rfl ?_
    refine L_v ((opv_neqS rfl rfl).bool_f (fun n => n rfl)) rfl ?_
    first
      | refine L_v (opv_pick_tt rfl rfl) rfl ?_
      | refine L_v (opv_pick_ff rfl rfl) rfl ?_
      | refine L_v (opv_pick rfl rfl rfl) rfl ?_
    refine L_nil ?_
    refine K_then ?_
    refine J_cond_false rfl ?_
    refine J_skip ?_
    refine K_then ?_
    refine J_seq ?_
    refine J_seq ?_
    refine J_region ?_
    refine L_v (opv_move rfl) rfl ?_
    refine L_v ((opv_neq rfl rfl).bool_f (fun n => n rfl)) rfl ?_
    refine L_nil ?_
    refine K_then ?_
    refine J_cond_false rfl ?_
    refine J_skip ?_
    refine K_then ?_
    refine J_seq ?_
    refine J_quiet Try.mixed (by kernel_rfl) ?_
    refine Q_v (opv_loadS rfl) rfl ?_
    refine Q_call (plain_spec (x.at (word s 0) (word s 2)) (En.at_ok hx (word_lt s 0) (word_lt s 2))) rfl rfl (fun _ _ => rfl) (fun _ _ => Ent.refl _) rfl ?_
    refine Q_v (opv_loadS rfl) rfl ?_
    refine Q_v ((opv_eqlF rfl rfl (by simp [Shape, CK.sh]) (by simp [Shape, CK.sh])).bool_t rfl) rfl ?_
    refine Q_v (opv_move rfl) rfl ?_
    refine Q_gon rfl rfl rfl ?_
    refine Q_call (uawake_spec) rfl rfl (fun _ _ => rfl) (fun _ _ => Ent.refl _) rfl ?_
    first
      | refine Q_v (opv_pick_tt rfl rfl) rfl ?_
      | refine Q_v (opv_pick_ff rfl rfl) rfl ?_
      | refine Q_v (opv_pick rfl rfl rfl) rfl ?_
    refine Q_v (opv_assign rfl) rfl ?_
    refine QL_nil ?_
    refine K_then ?_
    refine J_ret ?_
    exact K_ret1 rfl rfl () trivial (rfl) Ent.take

theorem UDS_bad (W : World) (x : En) (s : ByteArray) (hx : okEn x) (hs : s.size ≤ 9000) (h : (decU x s).2.2 ≠ 0) : FSpec Try.prog 8 #[.agg [.int .u8 x.a0, .int .u8 x.a1, .int .u8 x.a2, .int .u8 x.a3].toArray, .agg [.int .u8 x.b0, .int .u8 x.b1, .int .u8 x.b2, .int .u8 x.b3].toArray, .string s] (old W) (fun _ : Unit => True) (fun _ => .bool true) (fun _ => old W) := by
  refine FSpec.enter' Try.func8 rfl Try.ntmps8 rfl fun σ F => ?_
  refine J_seq ?_
  refine J_region ?_
  refine L_x rfl (opx_box (l := [.int .u8 x.a0, .int .u8 x.a1, .int .u8 x.a2, .int .u8 x.a3]) rfl rfl) (fun b3 _ => ?_)
  refine L_x rfl (opx_box (l := [.int .u8 x.b0, .int .u8 x.b1, .int .u8 x.b2, .int .u8 x.b3]) rfl rfl) (fun b4 _ => ?_)
  refine L_v (opv_assign rfl) rfl ?_
  refine L_nil ?_
  refine K_then ?_
  refine J_seq ?_
  refine J_seq ?_
  refine J_region ?_
  refine L_v (opv_move rfl) rfl ?_
  first
    | refine L_v (opv_lenL rfl) rfl ?_
    | refine L_v (opv_lenS rfl) rfl ?_
  refine L_v ((opv_gtr rfl rfl).bool_f (by omega)) rfl ?_
  refine L_nil ?_
  refine K_then ?_
  refine J_cond_false rfl ?_
  refine J_skip ?_
  refine K_then ?_
  refine J_seq ?_
  refine J_region ?_
  refine L_v (opv_loadS rfl) rfl ?_
  refine L_v (opv_loadS rfl) rfl ?_
  refine L_v (opv_move rfl) rfl ?_
  refine L_x rfl (opx_call0 (UD_bad x s hx (by omega) h) rfl rfl rfl) (fun _ _ => ?_)
  refine L_emp ?_
  refine L_v (opv_move rfl) rfl ?_
  refine L_v (opv_extract (v := .agg [.int .u8 0, .int .u8 0, .int .u8 0, .int .u8 0, .int .u8 0, .int .u8 0, .int .u8 0, .int .u8 0, .int .i64 0, .int .i64 0].toArray) rfl rfl) rfl ?_
  refine L_v (opv_extract rfl rfl) rfl ?_
  refine L_v (opv_extract rfl rfl) rfl ?_
  refine L_x rfl (opx_alloc rfl) (fun b7 _ => ?_)
  refine L_x rfl (opx_store rfl rfl rfl (by simp [Value.oneCell'])) (fun _ _ => ?_)
  refine L_v (opv_assign rfl) rfl ?_
  refine L_v (opv_assign rfl) rfl ?_
  refine L_nil ?_
  refine K_then ?_
  refine J_seq ?_
  refine J_steps ((sep (cel b3 [.int .u8 x.a0, .int .u8 x.a1, .int .u8 x.a2, .int .u8 x.a3] 27) (cel b4 [.int .u8 x.b0, .int .u8 x.b1, .int .u8 x.b2, .int .u8 x.b3] 27))) ((sep (cel b3 [.int .u8 x.a0, .int .u8 x.a1, .int .u8 x.a2, .int .u8 x.a3] 27) (cel b4 [.int .u8 x.b0, .int .u8 x.b1, .int .u8 x.b2, .int .u8 x.b3] 27))) [] Try.mixed ?_
  refine R_take 0 rfl (by kernel_rfl) (by kernel_rfl) (by kernel_rfl) (by kernel_rfl) (by kernel_rfl) (opv_loadS rfl) rfl ?_
  refine R_take 2 rfl (by kernel_rfl) (by kernel_rfl) (by kernel_rfl) (by kernel_rfl) (by kernel_rfl) (opv_loadS rfl) rfl ?_
  refine R_pure 4 rfl (by kernel_rfl) (by kernel_rfl) (by kernel_rfl) (by kernel_rfl) (.inr ⟨_, Take.eq (A := (sep (cel b3 [.int .u8 x.a0, .int .u8 x.a1, .int .u8 x.a2, .int .u8 x.a3] 27) (cel b4 [.int .u8 x.b0, .int .u8 x.b1, .int .u8 x.b2, .int .u8 x.b3] 27)))⟩) (opv_move rfl) rfl ?_
  refine R_all [1, 10] (by kernel_rfl) rfl fun i hi => ?_
  simp only [List.mem_cons, List.not_mem_nil, or_false] at hi
  rcases hi with rfl | rfl
  · refine ⟨_, _, _, _, _, rfl, rfl, (opx_call0 (ip_spec x.a0 x.a1 x.a2 x.a3 hx.a) rfl rfl rfl), fun _ _ => ⟨⟨_, Take.eq (A := (sep (cel b3 [.int .u8 x.a0, .int .u8 x.a1, .int .u8 x.a2, .int .u8 x.a3] 27) (cel b4 [.int .u8 x.b0, .int .u8 x.b1, .int .u8 x.b2, .int .u8 x.b3] 27)))⟩, .inr ⟨_, Take.eq (A := (sep (cel b3 [.int .u8 x.a0, .int .u8 x.a1, .int .u8 x.a2, .int .u8 x.a3] 27) (cel b4 [.int .u8 x.b0, .int .u8 x.b1, .int .u8 x.b2, .int .u8 x.b3] 27)))⟩, ?_⟩⟩
    refine Rg_emp ?_
    refine R_all [3, 10] (by kernel_rfl) rfl fun i hi => ?_
    simp only [List.mem_cons, List.not_mem_nil, or_false] at hi
    rcases hi with rfl | rfl
    · refine ⟨_, _, _, _, _, rfl, rfl, (opx_call0 (ip_spec x.b0 x.b1 x.b2 x.b3 hx.b) rfl rfl rfl), fun _ _ => ⟨⟨_, Take.eq (A := (sep (cel b3 [.int .u8 x.a0, .int .u8 x.a1, .int .u8 x.a2, .int .u8 x.a3] 27) (cel b4 [.int .u8 x.b0, .int .u8 x.b1, .int .u8 x.b2, .int .u8 x.b3] 27)))⟩, .inr ⟨_, Take.eq (A := (sep (cel b3 [.int .u8 x.a0, .int .u8 x.a1, .int .u8 x.a2, .int .u8 x.a3] 27) (cel b4 [.int .u8 x.b0, .int .u8 x.b1, .int .u8 x.b2, .int .u8 x.b3] 27)))⟩, ?_⟩⟩
      refine Rg_emp ?_
      refine R_all [5, 10] (by kernel_rfl) rfl fun i hi => ?_
      simp only [List.mem_cons, List.not_mem_nil, or_false] at hi
      rcases hi with rfl | rfl
      · refine ⟨_, _, _, _, _, rfl, rfl, (opx_call0 (RUD_bad x s (by omega) h) rfl rfl rfl), fun _ _ => ⟨⟨_, Take.eq (A := (sep (cel b3 [.int .u8 x.a0, .int .u8 x.a1, .int .u8 x.a2, .int .u8 x.a3] 27) (cel b4 [.int .u8 x.b0, .int .u8 x.b1, .int .u8 x.b2, .int .u8 x.b3] 27)))⟩, .inr ⟨_, Take.eq (A := (sep (cel b3 [.int .u8 x.a0, .int .u8 x.a1, .int .u8 x.a2, .int .u8 x.a3] 27) (cel b4 [.int .u8 x.b0, .int .u8 x.b1, .int .u8 x.b2, .int .u8 x.b3] 27)))⟩, ?_⟩⟩
        refine Rg_emp ?_
        refine R_pure 6 rfl (by kernel_rfl) (by kernel_rfl) (by kernel_rfl) (by kernel_rfl) (.inr ⟨_, Take.eq (A := (sep (cel b3 [.int .u8 x.a0, .int .u8 x.a1, .int .u8 x.a2, .int .u8 x.a3] 27) (cel b4 [.int .u8 x.b0, .int .u8 x.b1, .int .u8 x.b2, .int .u8 x.b3] 27)))⟩) (opv_move rfl) rfl ?_
        refine R_pure 7 rfl (by kernel_rfl) (by kernel_rfl) (by kernel_rfl) (by kernel_rfl) (.inr ⟨_, Take.eq (A := (sep (cel b3 [.int .u8 x.a0, .int .u8 x.a1, .int .u8 x.a2, .int .u8 x.a3] 27) (cel b4 [.int .u8 x.b0, .int .u8 x.b1, .int .u8 x.b2, .int .u8 x.b3] 27)))⟩) (opv_extract (v := .agg [.string ⟨#[]⟩, .string ⟨#[]⟩, .int .i64 0, .int .i64 0].toArray) rfl rfl) rfl ?_
        refine R_pure 8 rfl (by kernel_rfl) (by kernel_rfl) (by kernel_rfl) (by kernel_rfl) (.inr ⟨_, Take.eq (A := (sep (cel b3 [.int .u8 x.a0, .int .u8 x.a1, .int .u8 x.a2, .int .u8 x.a3] 27) (cel b4 [.int .u8 x.b0, .int .u8 x.b1, .int .u8 x.b2, .int .u8 x.b3] 27)))⟩) (opv_extract rfl rfl) rfl ?_
        refine R_pure 9 rfl (by kernel_rfl) (by kernel_rfl) (by kernel_rfl) (by kernel_rfl) (.inr ⟨_, Take.eq (A := (sep (cel b3 [.int .u8 x.a0, .int .u8 x.a1, .int .u8 x.a2, .int .u8 x.a3] 27) (cel b4 [.int .u8 x.b0, .int .u8 x.b1, .int .u8 x.b2, .int .u8 x.b3] 27)))⟩) (opv_extract rfl rfl) rfl ?_
        refine R_only 10 rfl rfl (by kernel_rfl) (opx_alloc rfl) (fun _ _ => ⟨_, Take.eq (A := (sep (cel b3 [.int .u8 x.a0, .int .u8 x.a1, .int .u8 x.a2, .int .u8 x.a3] 27) (cel b4 [.int .u8 x.b0, .int .u8 x.b1, .int .u8 x.b2, .int .u8 x.b3] 27)))⟩) (.inr fun _ _ => ⟨_, Take.eq (A := (sep (cel b3 [.int .u8 x.a0, .int .u8 x.a1, .int .u8 x.a2, .int .u8 x.a3] 27) (cel b4 [.int .u8 x.b0, .int .u8 x.b1, .int .u8 x.b2, .int .u8 x.b3] 27)))⟩) (fun b10 _ => ?_)
        refine R_only 11 rfl rfl (by kernel_rfl) (opx_store rfl rfl rfl (by simp [Value.oneCell'])) (fun _ _ => ⟨_, Take.eq (A := (sep (cel b3 [.int .u8 x.a0, .int .u8 x.a1, .int .u8 x.a2, .int .u8 x.a3] 27) (cel b4 [.int .u8 x.b0, .int .u8 x.b1, .int .u8 x.b2, .int .u8 x.b3] 27)))⟩) (.inr fun _ _ => ⟨_, Take.eq (A := (sep (cel b3 [.int .u8 x.a0, .int .u8 x.a1, .int .u8 x.a2, .int .u8 x.a3] 27) (cel b4 [.int .u8 x.b0, .int .u8 x.b1, .int .u8 x.b2, .int .u8 x.b3] 27)))⟩) (fun _ _ => ?_)
        refine R_pure 12 rfl (by kernel_rfl) (by kernel_rfl) (by kernel_rfl) (by kernel_rfl) (.inr ⟨_, Take.eq (A := (sep (cel b3 [.int .u8 x.a0, .int .u8 x.a1, .int .u8 x.a2, .int .u8 x.a3] 27) (cel b4 [.int .u8 x.b0, .int .u8 x.b1, .int .u8 x.b2, .int .u8 x.b3] 27)))⟩) (opv_assign rfl) rfl ?_
        refine R_pure 13 rfl (by kernel_rfl) (by kernel_rfl) (by kernel_rfl) (by kernel_rfl) (.inr ⟨_, Take.eq (A := (sep (cel b3 [.int .u8 x.a0, .int .u8 x.a1, .int .u8 x.a2, .int .u8 x.a3] 27) (cel b4 [.int .u8 x.b0, .int .u8 x.b1, .int .u8 x.b2, .int .u8 x.b3] 27)))⟩) (opv_assign rfl) rfl ?_
        refine R_done (by kernel_rfl) ?_
        refine K_then ?_
        refine J_seq ?_
        refine J_seq ?_
        refine J_region ?_
        refine L_v (opv_move rfl) rfl ?_
        refine L_v (opv_move rfl) rfl ?_
        refine L_v ((opv_neq rfl rfl).bool_f (fun n => n rfl)) rfl ?_
        refine L_v (opv_move rfl) rfl ?_
        refine L_gon rfl rfl rfl ?_
        refine L_v (opv_move rfl) rfl ?_
        refine L_gon rfl rfl rfl ?_
        refine L_v (opv_move rfl) rfl ?_
        refine L_gon rfl rfl rfl ?_
        refine L_v ((opv_neqS rfl rfl).bool_f (fun n => n rfl)) rfl ?_
        first
          | refine L_v (opv_pick_tt rfl rfl) rfl ?_
          | refine L_v (opv_pick_ff rfl rfl) rfl ?_
          | refine L_v (opv_pick rfl rfl rfl) rfl ?_
        refine L_nil ?_
        refine K_then ?_
        refine J_cond_false rfl ?_
        refine J_skip ?_
        refine K_then ?_
        refine J_seq ?_
        refine J_seq ?_
        refine J_region ?_
        refine L_v (opv_move rfl) rfl ?_
        refine L_v ((opv_neq rfl rfl).bool_t h) rfl ?_
        refine L_nil ?_
        refine K_then ?_
        refine J_cond_true rfl ?_
        refine J_seq ?_
        refine J_region ?_
        refine L_v (opv_loadS rfl) rfl ?_
        refine L_v (opv_build rfl) rfl ?_
        refine L_v ((opv_eqlF rfl rfl (by simp [Shape, CK.sh]) (by simp [Shape, CK.sh])).bool_t rfl) rfl ?_
        refine L_v (opv_move rfl) rfl ?_
        refine L_gon rfl rfl rfl ?_
        refine L_x rfl (opx_call0 (uawake_spec) rfl rfl rfl) (fun _ _ => ?_)
        refine L_emp ?_
        first
          | refine L_v (opv_pick_tt rfl rfl) rfl ?_
          | refine L_v (opv_pick_ff rfl rfl) rfl ?_
          | refine L_v (opv_pick rfl rfl rfl) rfl ?_
        refine L_v (opv_assign rfl) rfl ?_
        refine L_nil ?_
        refine K_then ?_
        refine J_ret ?_
        refine K_then_ret ?_
        exact K_ret1 rfl rfl () trivial (rfl) Ent.take
      · refine ⟨_, _, _, _, _, rfl, rfl, (opx_alloc rfl), fun b10 _ => ⟨⟨_, Take.eq (A := (sep (cel b3 [.int .u8 x.a0, .int .u8 x.a1, .int .u8 x.a2, .int .u8 x.a3] 27) (cel b4 [.int .u8 x.b0, .int .u8 x.b1, .int .u8 x.b2, .int .u8 x.b3] 27)))⟩, .inr ⟨_, Take.eq (A := (sep (cel b3 [.int .u8 x.a0, .int .u8 x.a1, .int .u8 x.a2, .int .u8 x.a3] 27) (cel b4 [.int .u8 x.b0, .int .u8 x.b1, .int .u8 x.b2, .int .u8 x.b3] 27)))⟩, ?_⟩⟩
        refine R_only 5 rfl rfl (by kernel_rfl) (opx_call0 (RUD_bad x s (by omega) h) rfl rfl rfl) (fun _ _ => ⟨_, Take.eq (A := (sep (cel b3 [.int .u8 x.a0, .int .u8 x.a1, .int .u8 x.a2, .int .u8 x.a3] 27) (cel b4 [.int .u8 x.b0, .int .u8 x.b1, .int .u8 x.b2, .int .u8 x.b3] 27)))⟩) (.inr fun _ _ => ⟨_, Take.eq (A := (sep (cel b3 [.int .u8 x.a0, .int .u8 x.a1, .int .u8 x.a2, .int .u8 x.a3] 27) (cel b4 [.int .u8 x.b0, .int .u8 x.b1, .int .u8 x.b2, .int .u8 x.b3] 27)))⟩) (fun _ _ => ?_)
        refine Rg_emp ?_
        refine R_pure 6 rfl (by kernel_rfl) (by kernel_rfl) (by kernel_rfl) (by kernel_rfl) (.inr ⟨_, Take.eq (A := (sep (cel b3 [.int .u8 x.a0, .int .u8 x.a1, .int .u8 x.a2, .int .u8 x.a3] 27) (cel b4 [.int .u8 x.b0, .int .u8 x.b1, .int .u8 x.b2, .int .u8 x.b3] 27)))⟩) (opv_move rfl) rfl ?_
        refine R_pure 7 rfl (by kernel_rfl) (by kernel_rfl) (by kernel_rfl) (by kernel_rfl) (.inr ⟨_, Take.eq (A := (sep (cel b3 [.int .u8 x.a0, .int .u8 x.a1, .int .u8 x.a2, .int .u8 x.a3] 27) (cel b4 [.int .u8 x.b0, .int .u8 x.b1, .int .u8 x.b2, .int .u8 x.b3] 27)))⟩) (opv_extract (v := .agg [.string ⟨#[]⟩, .string ⟨#[]⟩, .int .i64 0, .int .i64 0].toArray) rfl rfl) rfl ?_
        refine R_pure 8 rfl (by kernel_rfl) (by kernel_rfl) (by kernel_rfl) (by kernel_rfl) (.inr ⟨_, Take.eq (A := (sep (cel b3 [.int .u8 x.a0, .int .u8 x.a1, .int .u8 x.a2, .int .u8 x.a3] 27) (cel b4 [.int .u8 x.b0, .int .u8 x.b1, .int .u8 x.b2, .int .u8 x.b3] 27)))⟩) (opv_extract rfl rfl) rfl ?_
        refine R_pure 9 rfl (by kernel_rfl) (by kernel_rfl) (by kernel_rfl) (by kernel_rfl) (.inr ⟨_, Take.eq (A := (sep (cel b3 [.int .u8 x.a0, .int .u8 x.a1, .int .u8 x.a2, .int .u8 x.a3] 27) (cel b4 [.int .u8 x.b0, .int .u8 x.b1, .int .u8 x.b2, .int .u8 x.b3] 27)))⟩) (opv_extract rfl rfl) rfl ?_
        refine R_only 11 rfl rfl (by kernel_rfl) (opx_store rfl rfl rfl (by simp [Value.oneCell'])) (fun _ _ => ⟨_, Take.eq (A := (sep (cel b3 [.int .u8 x.a0, .int .u8 x.a1, .int .u8 x.a2, .int .u8 x.a3] 27) (cel b4 [.int .u8 x.b0, .int .u8 x.b1, .int .u8 x.b2, .int .u8 x.b3] 27)))⟩) (.inr fun _ _ => ⟨_, Take.eq (A := (sep (cel b3 [.int .u8 x.a0, .int .u8 x.a1, .int .u8 x.a2, .int .u8 x.a3] 27) (cel b4 [.int .u8 x.b0, .int .u8 x.b1, .int .u8 x.b2, .int .u8 x.b3] 27)))⟩) (fun _ _ => ?_)
        refine R_pure 12 rfl (by kernel_rfl) (by kernel_rfl) (by kernel_rfl) (by kernel_rfl) (.inr ⟨_, Take.eq (A := (sep (cel b3 [.int .u8 x.a0, .int .u8 x.a1, .int .u8 x.a2, .int .u8 x.a3] 27) (cel b4 [.int .u8 x.b0, .int .u8 x.b1, .int .u8 x.b2, .int .u8 x.b3] 27)))⟩) (opv_assign rfl) rfl ?_
        refine R_pure 13 rfl (by kernel_rfl) (by kernel_rfl) (by kernel_rfl) (by kernel_rfl) (.inr ⟨_, Take.eq (A := (sep (cel b3 [.int .u8 x.a0, .int .u8 x.a1, .int .u8 x.a2, .int .u8 x.a3] 27) (cel b4 [.int .u8 x.b0, .int .u8 x.b1, .int .u8 x.b2, .int .u8 x.b3] 27)))⟩) (opv_assign rfl) rfl ?_
        refine R_done (by kernel_rfl) ?_
        refine K_then ?_
        refine J_seq ?_
        refine J_seq ?_
        refine J_region ?_
        refine L_v (opv_move rfl) rfl ?_
        refine L_v (opv_move rfl) rfl ?_
        refine L_v ((opv_neq rfl rfl).bool_f (fun n => n rfl)) rfl ?_
        refine L_v (opv_move rfl) rfl ?_
        refine L_gon rfl rfl rfl ?_
        refine L_v (opv_move rfl) rfl ?_
        refine L_gon rfl rfl rfl ?_
        refine L_v (opv_move rfl) rfl ?_
        refine L_gon rfl rfl rfl ?_
        refine L_v ((opv_neqS rfl rfl).bool_f (fun n => n rfl)) rfl ?_
        first
          | refine L_v (opv_pick_tt rfl rfl) rfl ?_
          | refine L_v (opv_pick_ff rfl rfl) rfl ?_
          | refine L_v (opv_pick rfl rfl rfl) rfl ?_
        refine L_nil ?_
        refine K_then ?_
        refine J_cond_false rfl ?_
        refine J_skip ?_
        refine K_then ?_
        refine J_seq ?_
        refine J_seq ?_
        refine J_region ?_
        refine L_v (opv_move rfl) rfl ?_
        refine L_v ((opv_neq rfl rfl).bool_t h) rfl ?_
        refine L_nil ?_
        refine K_then ?_
        refine J_cond_true rfl ?_
        refine J_seq ?_
        refine J_region ?_
        refine L_v (opv_loadS rfl) rfl ?_
        refine L_v (opv_build rfl) rfl ?_
        refine L_v ((opv_eqlF rfl rfl (by simp [Shape, CK.sh]) (by simp [Shape, CK.sh])).bool_t rfl) rfl ?_
        refine L_v (opv_move rfl) rfl ?_
        refine L_gon rfl rfl rfl ?_
        refine L_x rfl (opx_call0 (uawake_spec) rfl rfl rfl) (fun _ _ => ?_)
        refine L_emp ?_
        first
          | refine L_v (opv_pick_tt rfl rfl) rfl ?_
          | refine L_v (opv_pick_ff rfl rfl) rfl ?_
          | refine L_v (opv_pick rfl rfl rfl) rfl ?_
        refine L_v (opv_assign rfl) rfl ?_
        refine L_nil ?_
        refine K_then ?_
        refine J_ret ?_
        refine K_then_ret ?_
        exact K_ret1 rfl rfl () trivial (rfl) Ent.take
    · refine ⟨_, _, _, _, _, rfl, rfl, (opx_alloc rfl), fun b10 _ => ⟨⟨_, Take.eq (A := (sep (cel b3 [.int .u8 x.a0, .int .u8 x.a1, .int .u8 x.a2, .int .u8 x.a3] 27) (cel b4 [.int .u8 x.b0, .int .u8 x.b1, .int .u8 x.b2, .int .u8 x.b3] 27)))⟩, .inr ⟨_, Take.eq (A := (sep (cel b3 [.int .u8 x.a0, .int .u8 x.a1, .int .u8 x.a2, .int .u8 x.a3] 27) (cel b4 [.int .u8 x.b0, .int .u8 x.b1, .int .u8 x.b2, .int .u8 x.b3] 27)))⟩, ?_⟩⟩
      refine R_only 3 rfl rfl (by kernel_rfl) (opx_call0 (ip_spec x.b0 x.b1 x.b2 x.b3 hx.b) rfl rfl rfl) (fun _ _ => ⟨_, Take.eq (A := (sep (cel b3 [.int .u8 x.a0, .int .u8 x.a1, .int .u8 x.a2, .int .u8 x.a3] 27) (cel b4 [.int .u8 x.b0, .int .u8 x.b1, .int .u8 x.b2, .int .u8 x.b3] 27)))⟩) (.inr fun _ _ => ⟨_, Take.eq (A := (sep (cel b3 [.int .u8 x.a0, .int .u8 x.a1, .int .u8 x.a2, .int .u8 x.a3] 27) (cel b4 [.int .u8 x.b0, .int .u8 x.b1, .int .u8 x.b2, .int .u8 x.b3] 27)))⟩) (fun _ _ => ?_)
      refine Rg_emp ?_
      refine R_only 5 rfl rfl (by kernel_rfl) (opx_call0 (RUD_bad x s (by omega) h) rfl rfl rfl) (fun _ _ => ⟨_, Take.eq (A := (sep (cel b3 [.int .u8 x.a0, .int .u8 x.a1, .int .u8 x.a2, .int .u8 x.a3] 27) (cel b4 [.int .u8 x.b0, .int .u8 x.b1, .int .u8 x.b2, .int .u8 x.b3] 27)))⟩) (.inr fun _ _ => ⟨_, Take.eq (A := (sep (cel b3 [.int .u8 x.a0, .int .u8 x.a1, .int .u8 x.a2, .int .u8 x.a3] 27) (cel b4 [.int .u8 x.b0, .int .u8 x.b1, .int .u8 x.b2, .int .u8 x.b3] 27)))⟩) (fun _ _ => ?_)
      refine Rg_emp ?_
      refine R_pure 6 rfl (by kernel_rfl) (by kernel_rfl) (by kernel_rfl) (by kernel_rfl) (.inr ⟨_, Take.eq (A := (sep (cel b3 [.int .u8 x.a0, .int .u8 x.a1, .int .u8 x.a2, .int .u8 x.a3] 27) (cel b4 [.int .u8 x.b0, .int .u8 x.b1, .int .u8 x.b2, .int .u8 x.b3] 27)))⟩) (opv_move rfl) rfl ?_
      refine R_pure 7 rfl (by kernel_rfl) (by kernel_rfl) (by kernel_rfl) (by kernel_rfl) (.inr ⟨_, Take.eq (A := (sep (cel b3 [.int .u8 x.a0, .int .u8 x.a1, .int .u8 x.a2, .int .u8 x.a3] 27) (cel b4 [.int .u8 x.b0, .int .u8 x.b1, .int .u8 x.b2, .int .u8 x.b3] 27)))⟩) (opv_extract (v := .agg [.string ⟨#[]⟩, .string ⟨#[]⟩, .int .i64 0, .int .i64 0].toArray) rfl rfl) rfl ?_
      refine R_pure 8 rfl (by kernel_rfl) (by kernel_rfl) (by kernel_rfl) (by kernel_rfl) (.inr ⟨_, Take.eq (A := (sep (cel b3 [.int .u8 x.a0, .int .u8 x.a1, .int .u8 x.a2, .int .u8 x.a3] 27) (cel b4 [.int .u8 x.b0, .int .u8 x.b1, .int .u8 x.b2, .int .u8 x.b3] 27)))⟩) (opv_extract rfl rfl) rfl ?_
      refine R_pure 9 rfl (by kernel_rfl) (by kernel_rfl) (by kernel_rfl) (by kernel_rfl) (.inr ⟨_, Take.eq (A := (sep (cel b3 [.int .u8 x.a0, .int .u8 x.a1, .int .u8 x.a2, .int .u8 x.a3] 27) (cel b4 [.int .u8 x.b0, .int .u8 x.b1, .int .u8 x.b2, .int .u8 x.b3] 27)))⟩) (opv_extract rfl rfl) rfl ?_
      refine R_only 11 rfl rfl (by kernel_rfl) (opx_store rfl rfl rfl (by simp [Value.oneCell'])) (fun _ _ => ⟨_, Take.eq (A := (sep (cel b3 [.int .u8 x.a0, .int .u8 x.a1, .int .u8 x.a2, .int .u8 x.a3] 27) (cel b4 [.int .u8 x.b0, .int .u8 x.b1, .int .u8 x.b2, .int .u8 x.b3] 27)))⟩) (.inr fun _ _ => ⟨_, Take.eq (A := (sep (cel b3 [.int .u8 x.a0, .int .u8 x.a1, .int .u8 x.a2, .int .u8 x.a3] 27) (cel b4 [.int .u8 x.b0, .int .u8 x.b1, .int .u8 x.b2, .int .u8 x.b3] 27)))⟩) (fun _ _ => ?_)
      refine R_pure 12 rfl (by kernel_rfl) (by kernel_rfl) (by kernel_rfl) (by kernel_rfl) (.inr ⟨_, Take.eq (A := (sep (cel b3 [.int .u8 x.a0, .int .u8 x.a1, .int .u8 x.a2, .int .u8 x.a3] 27) (cel b4 [.int .u8 x.b0, .int .u8 x.b1, .int .u8 x.b2, .int .u8 x.b3] 27)))⟩) (opv_assign rfl) rfl ?_
      refine R_pure 13 rfl (by kernel_rfl) (by kernel_rfl) (by kernel_rfl) (by kernel_rfl) (.inr ⟨_, Take.eq (A := (sep (cel b3 [.int .u8 x.a0, .int .u8 x.a1, .int .u8 x.a2, .int .u8 x.a3] 27) (cel b4 [.int .u8 x.b0, .int .u8 x.b1, .int .u8 x.b2, .int .u8 x.b3] 27)))⟩) (opv_assign rfl) rfl ?_
      refine R_done (by kernel_rfl) ?_
      refine K_then ?_
      refine J_seq ?_
      refine J_seq ?_
      refine J_region ?_
      refine L_v (opv_move rfl) rfl ?_
      refine L_v (opv_move rfl) rfl ?_
      refine L_v ((opv_neq rfl rfl).bool_f (fun n => n rfl)) rfl ?_
      refine L_v (opv_move rfl) rfl ?_
      refine L_gon rfl rfl rfl ?_
      refine L_v (opv_move rfl) rfl ?_
      refine L_gon rfl rfl rfl ?_
      refine L_v (opv_move rfl) rfl ?_
      refine L_gon rfl rfl rfl ?_
      refine L_v ((opv_neqS rfl rfl).bool_f (fun n => n rfl)) rfl ?_
      first
        | refine L_v (opv_pick_tt rfl rfl) rfl ?_
        | refine L_v (opv_pick_ff rfl rfl) rfl ?_
        | refine L_v (opv_pick rfl rfl rfl) rfl ?_
      refine L_nil ?_
      refine K_then ?_
      refine J_cond_false rfl ?_
      refine J_skip ?_
      refine K_then ?_
      refine J_seq ?_
      refine J_seq ?_
      refine J_region ?_
      refine L_v (opv_move rfl) rfl ?_
      refine L_v ((opv_neq rfl rfl).bool_t h) rfl ?_
      refine L_nil ?_
      refine K_then ?_
      refine J_cond_true rfl ?_
      refine J_seq ?_
      refine J_region ?_
      refine L_v (opv_loadS rfl) rfl ?_
      refine L_v (opv_build rfl) rfl ?_
      refine L_v ((opv_eqlF rfl rfl (by simp [Shape, CK.sh]) (by simp [Shape, CK.sh])).bool_t rfl) rfl ?_
      refine L_v (opv_move rfl) rfl ?_
      refine L_gon rfl rfl rfl ?_
      refine L_x rfl (opx_call0 (uawake_spec) rfl rfl rfl) (fun _ _ => ?_)
      refine L_emp ?_
      first
        | refine L_v (opv_pick_tt rfl rfl) rfl ?_
        | refine L_v (opv_pick_ff rfl rfl) rfl ?_
        | refine L_v (opv_pick rfl rfl rfl) rfl ?_
      refine L_v (opv_assign rfl) rfl ?_
      refine L_nil ?_
      refine K_then ?_
      refine J_ret ?_
      refine K_then_ret ?_
      exact K_ret1 rfl rfl () trivial (rfl) Ent.take
  · refine ⟨_, _, _, _, _, rfl, rfl, (opx_alloc rfl), fun b10 _ => ⟨⟨_, Take.eq (A := (sep (cel b3 [.int .u8 x.a0, .int .u8 x.a1, .int .u8 x.a2, .int .u8 x.a3] 27) (cel b4 [.int .u8 x.b0, .int .u8 x.b1, .int .u8 x.b2, .int .u8 x.b3] 27)))⟩, .inr ⟨_, Take.eq (A := (sep (cel b3 [.int .u8 x.a0, .int .u8 x.a1, .int .u8 x.a2, .int .u8 x.a3] 27) (cel b4 [.int .u8 x.b0, .int .u8 x.b1, .int .u8 x.b2, .int .u8 x.b3] 27)))⟩, ?_⟩⟩
    refine R_only 1 rfl rfl (by kernel_rfl) (opx_call0 (ip_spec x.a0 x.a1 x.a2 x.a3 hx.a) rfl rfl rfl) (fun _ _ => ⟨_, Take.eq (A := (sep (cel b3 [.int .u8 x.a0, .int .u8 x.a1, .int .u8 x.a2, .int .u8 x.a3] 27) (cel b4 [.int .u8 x.b0, .int .u8 x.b1, .int .u8 x.b2, .int .u8 x.b3] 27)))⟩) (.inr fun _ _ => ⟨_, Take.eq (A := (sep (cel b3 [.int .u8 x.a0, .int .u8 x.a1, .int .u8 x.a2, .int .u8 x.a3] 27) (cel b4 [.int .u8 x.b0, .int .u8 x.b1, .int .u8 x.b2, .int .u8 x.b3] 27)))⟩) (fun _ _ => ?_)
    refine Rg_emp ?_
    refine R_only 3 rfl rfl (by kernel_rfl) (opx_call0 (ip_spec x.b0 x.b1 x.b2 x.b3 hx.b) rfl rfl rfl) (fun _ _ => ⟨_, Take.eq (A := (sep (cel b3 [.int .u8 x.a0, .int .u8 x.a1, .int .u8 x.a2, .int .u8 x.a3] 27) (cel b4 [.int .u8 x.b0, .int .u8 x.b1, .int .u8 x.b2, .int .u8 x.b3] 27)))⟩) (.inr fun _ _ => ⟨_, Take.eq (A := (sep (cel b3 [.int .u8 x.a0, .int .u8 x.a1, .int .u8 x.a2, .int .u8 x.a3] 27) (cel b4 [.int .u8 x.b0, .int .u8 x.b1, .int .u8 x.b2, .int .u8 x.b3] 27)))⟩) (fun _ _ => ?_)
    refine Rg_emp ?_
    refine R_only 5 rfl rfl (by kernel_rfl) (opx_call0 (RUD_bad x s (by omega) h) rfl rfl rfl) (fun _ _ => ⟨_, Take.eq (A := (sep (cel b3 [.int .u8 x.a0, .int .u8 x.a1, .int .u8 x.a2, .int .u8 x.a3] 27) (cel b4 [.int .u8 x.b0, .int .u8 x.b1, .int .u8 x.b2, .int .u8 x.b3] 27)))⟩) (.inr fun _ _ => ⟨_, Take.eq (A := (sep (cel b3 [.int .u8 x.a0, .int .u8 x.a1, .int .u8 x.a2, .int .u8 x.a3] 27) (cel b4 [.int .u8 x.b0, .int .u8 x.b1, .int .u8 x.b2, .int .u8 x.b3] 27)))⟩) (fun _ _ => ?_)
    refine Rg_emp ?_
    refine R_pure 6 rfl (by kernel_rfl) (by kernel_rfl) (by kernel_rfl) (by kernel_rfl) (.inr ⟨_, Take.eq (A := (sep (cel b3 [.int .u8 x.a0, .int .u8 x.a1, .int .u8 x.a2, .int .u8 x.a3] 27) (cel b4 [.int .u8 x.b0, .int .u8 x.b1, .int .u8 x.b2, .int .u8 x.b3] 27)))⟩) (opv_move rfl) rfl ?_
    refine R_pure 7 rfl (by kernel_rfl) (by kernel_rfl) (by kernel_rfl) (by kernel_rfl) (.inr ⟨_, Take.eq (A := (sep (cel b3 [.int .u8 x.a0, .int .u8 x.a1, .int .u8 x.a2, .int .u8 x.a3] 27) (cel b4 [.int .u8 x.b0, .int .u8 x.b1, .int .u8 x.b2, .int .u8 x.b3] 27)))⟩) (opv_extract (v := .agg [.string ⟨#[]⟩, .string ⟨#[]⟩, .int .i64 0, .int .i64 0].toArray) rfl rfl) rfl ?_
    refine R_pure 8 rfl (by kernel_rfl) (by kernel_rfl) (by kernel_rfl) (by kernel_rfl) (.inr ⟨_, Take.eq (A := (sep (cel b3 [.int .u8 x.a0, .int .u8 x.a1, .int .u8 x.a2, .int .u8 x.a3] 27) (cel b4 [.int .u8 x.b0, .int .u8 x.b1, .int .u8 x.b2, .int .u8 x.b3] 27)))⟩) (opv_extract rfl rfl) rfl ?_
    refine R_pure 9 rfl (by kernel_rfl) (by kernel_rfl) (by kernel_rfl) (by kernel_rfl) (.inr ⟨_, Take.eq (A := (sep (cel b3 [.int .u8 x.a0, .int .u8 x.a1, .int .u8 x.a2, .int .u8 x.a3] 27) (cel b4 [.int .u8 x.b0, .int .u8 x.b1, .int .u8 x.b2, .int .u8 x.b3] 27)))⟩) (opv_extract rfl rfl) rfl ?_
    refine R_only 11 rfl rfl (by kernel_rfl) (opx_store rfl rfl rfl (by simp [Value.oneCell'])) (fun _ _ => ⟨_, Take.eq (A := (sep (cel b3 [.int .u8 x.a0, .int .u8 x.a1, .int .u8 x.a2, .int .u8 x.a3] 27) (cel b4 [.int .u8 x.b0, .int .u8 x.b1, .int .u8 x.b2, .int .u8 x.b3] 27)))⟩) (.inr fun _ _ => ⟨_, Take.eq (A := (sep (cel b3 [.int .u8 x.a0, .int .u8 x.a1, .int .u8 x.a2, .int .u8 x.a3] 27) (cel b4 [.int .u8 x.b0, .int .u8 x.b1, .int .u8 x.b2, .int .u8 x.b3] 27)))⟩) (fun _ _ => ?_)
    refine R_pure 12 rfl (by kernel_rfl) (by kernel_rfl) (by kernel_rfl) (by kernel_rfl) (.inr ⟨_, Take.eq (A := (sep (cel b3 [.int .u8 x.a0, .int .u8 x.a1, .int .u8 x.a2, .int .u8 x.a3] 27) (cel b4 [.int .u8 x.b0, .int .u8 x.b1, .int .u8 x.b2, .int .u8 x.b3] 27)))⟩) (opv_assign rfl) rfl ?_
    refine R_pure 13 rfl (by kernel_rfl) (by kernel_rfl) (by kernel_rfl) (by kernel_rfl) (.inr ⟨_, Take.eq (A := (sep (cel b3 [.int .u8 x.a0, .int .u8 x.a1, .int .u8 x.a2, .int .u8 x.a3] 27) (cel b4 [.int .u8 x.b0, .int .u8 x.b1, .int .u8 x.b2, .int .u8 x.b3] 27)))⟩) (opv_assign rfl) rfl ?_
    refine R_done (by kernel_rfl) ?_
    refine K_then ?_
    refine J_seq ?_
    refine J_seq ?_
    refine J_region ?_
    refine L_v (opv_move rfl) rfl ?_
    refine L_v (opv_move rfl) rfl ?_
    refine L_v ((opv_neq rfl rfl).bool_f (fun n => n rfl)) rfl ?_
    refine L_v (opv_move rfl) rfl ?_
    refine L_gon rfl rfl rfl ?_
    refine L_v (opv_move rfl) rfl ?_
    refine L_gon rfl rfl rfl ?_
    refine L_v (opv_move rfl) rfl ?_
    refine L_gon rfl rfl rfl ?_
    refine L_v ((opv_neqS rfl rfl).bool_f (fun n => n rfl)) rfl ?_
    first
      | refine L_v (opv_pick_tt rfl rfl) rfl ?_
      | refine L_v (opv_pick_ff rfl rfl) rfl ?_
      | refine L_v (opv_pick rfl rfl rfl) rfl ?_
    refine L_nil ?_
    refine K_then ?_
    refine J_cond_false rfl ?_
    refine J_skip ?_
    refine K_then ?_
    refine J_seq ?_
    refine J_seq ?_
    refine J_region ?_
    refine L_v (opv_move rfl) rfl ?_
    refine L_v ((opv_neq rfl rfl).bool_t h) rfl ?_
    refine L_nil ?_
    refine K_then ?_
    refine J_cond_true rfl ?_
    refine J_seq ?_
    refine J_region ?_
    refine L_v (opv_loadS rfl) rfl ?_
    refine L_v (opv_build rfl) rfl ?_
    refine L_v ((opv_eqlF rfl rfl (by simp [Shape, CK.sh]) (by simp [Shape, CK.sh])).bool_t rfl) rfl ?_
    refine L_v (opv_move rfl) rfl ?_
    refine L_gon rfl rfl rfl ?_
    refine L_x rfl (opx_call0 (uawake_spec) rfl rfl rfl) (fun _ _ => ?_)
    refine L_emp ?_
    first
      | refine L_v (opv_pick_tt rfl rfl) rfl ?_
      | refine L_v (opv_pick_ff rfl rfl) rfl ?_
      | refine L_v (opv_pick rfl rfl rfl) rfl ?_
    refine L_v (opv_assign rfl) rfl ?_
    refine L_nil ?_
    refine K_then ?_
    refine J_ret ?_
    refine K_then_ret ?_
    exact K_ret1 rfl rfl () trivial (rfl) Ent.take

theorem UdpDecodes_law (W : World) (a b : Ip) (s : ByteArray) (ha : okIp a) (hb : okIp b) : FSpec Try.prog 8 #[.agg (encIp a).toArray, .agg (encIp b).toArray, .string s] (old W) (fun _ : Unit => True) (fun _ => .bool true) (fun _ => old W) := by
  by_cases h9 : 9000 < s.size
  · exact UDS_big W (En.of a b) s h9
  · by_cases h : (decU (En.of a b) s).2.2 = 0
    · exact UDS_ok W (En.of a b) s (En.of_ok ha hb) (by omega) h
    · exact UDS_bad W (En.of a b) s (En.of_ok ha hb) (by omega) h

end Go.Proofs.Ytdmlcnecildliaa
namespace Go.Proofs.Ytdmlcnecildliaa.udpDecodes
open Go.ChangeShapes Go.WideShapes Go.ChangeAt Go.RowKit Go.SLA
open Go.ChangeMaps (open_string shut_string)
set_option linter.unusedVariables false
theorem own : ownKnob Try.prog.godebug = none := by kernel_rfl
theorem laidOut : laidOutB Try.prog = true := by kernel_rfl
set_option maxRecDepth 100000 in
theorem lifted (os : Os) (started : os.Started) (H : Type) (enc : TypeId × Value → H) :
    ReturnsInHanded {} Try.checked os 8 .any (Rows.udpDecodesSpec.pre6 enc Try.prog Try.f8 Rows.udpDecodesRow.domain false) (Rows.udpDecodesSpec.post enc Try.prog Try.f8 false true false false) := by
  refine returnsInHanded_of_change_sized (C := Try.checked) own started (by kernel_rfl) Try.func8
    (ChangeSpec.witness6 (enc := enc) (C := Try.checked) false ⟨#[], #[.agg #[.int .u8 0, .int .u8 0, .int .u8 0, .int .u8 0], .agg #[.int .u8 0, .int .u8 0, .int .u8 0, .int .u8 0], .string ByteArray.empty], []⟩ 8 (by kernel_rfl) (by kernel_rfl) (by kernel_rfl) (by kernel_rfl)) ?_
  intro W base args ds gs before hval0 hW hcnd hsz0 _
  have hsz : (DataW.weightsEach Try.prog (Try.f8.params.toList ++ Rows.udpDecodesSpec.plain.varTypes Try.prog) (ds ++ gs)).all (· ≤ reachBytes) = true := hsz0
  have hval : ∀ (j : Nat) t v, Try.f8.params[j]? = some t → args[j]? = some v → Value.okWide Try.prog W .any base t v := hval0
  have hW' := hW
  obtain ⟨p, q, hA0, hV, rfl, hfz, hnd⟩ := hW
  have hA : DataW.TrodAll enc Try.prog W 0 (fun _ => true) true Try.f8.params.toList args.toList ds p := hA0
  rw [Try.params8] at hA hval hsz
  obtain ⟨v0, vs0, d0, ds0, p0, q0, hargs, rfl, rfl, h0, r0⟩ := trodAll_cons hA
  obtain ⟨v1, vs1, d1, ds1, p1, q1, rfl, rfl, rfl, h1, r1⟩ := trodAll_cons r0
  obtain ⟨v2, vs2, d2, ds2, p2, q2, rfl, rfl, rfl, h2, r2⟩ := trodAll_cons r1
  obtain ⟨rfl, rfl, rfl⟩ := trodAll_nil r2
  obtain rfl : args = #[v0, v1, v2] := by cases args; simp_all
  obtain ⟨rfl, rfl⟩ := trodVars_none hV
  have k0 := h0
  have lt0 : ∀ x ∈ p0, x.block < W.heap.size := by obtain ⟨m, hm⟩ := k0; exact DataW.trod_lt m _ _ _ hm
  obtain ⟨l0, rfl, g0⟩ := open_flat (D := 5) (ks := ksIp) (by kernel_rfl) (by kernel_rfl) (hval 0 27 v0 rfl rfl) h0
  obtain ⟨x0, rfl, ok0⟩ := decIp l0 g0
  have k1 := h1
  have lt1 : ∀ x ∈ p1, x.block < W.heap.size := by obtain ⟨m, hm⟩ := k1; exact DataW.trod_lt m _ _ _ hm
  obtain ⟨l1, rfl, g1⟩ := open_flat (D := 5) (ks := ksIp) (by kernel_rfl) (by kernel_rfl) (hval 1 27 v1 rfl rfl) h1
  obtain ⟨x1, rfl, ok1⟩ := decIp l1 g1
  have k2 := h2
  have lt2 : ∀ x ∈ p2, x.block < W.heap.size := by obtain ⟨m, hm⟩ := k2; exact DataW.trod_lt m _ _ _ hm
  obtain ⟨a2, rfl, rfl, rfl, y2⟩ := open_string Try.underlying9 (hval 2 9 v2 rfl rfl) h2
  have z2 := sized_string hsz (j := 2) (t := 9) rfl rfl
  rw [Array.length_toList] at z2
  clear hA0 hval0 hsz0 hsz
  refine (FSpec.law (UdpDecodes_law W x0 x1 a2 ok0 ok1)).mono fun e W' ⟨he, bel⟩ => ?_
  subst he
  exact ⟨_, rfl, _, _, _, [], _, [], hW', trodAll_mk1 (shut_bool Try.underlying4 _), (trodAll_cons_mk (Below.trod laidOut (by kernel_rfl) (of_decide_eq_true (by kernel_rfl)) k0 bel lt0) (trodAll_cons_mk (Below.trod laidOut (by kernel_rfl) (of_decide_eq_true (by kernel_rfl)) k1 bel lt1) (trodAll_cons_mk (Below.trod laidOut (by kernel_rfl) (of_decide_eq_true (by kernel_rfl)) k2 bel lt2) trodAll_mk0))), rfl, bel.frame _, fun h => by cases h⟩
theorem over : Rows.udpDecodesRow.holds Try.pinned (OpenSpec.ofChange Rows.udpDecodesSpec) :=
  OpenClaim.holds_of_wide 8 Try.f8 rfl rfl rfl rfl rfl rfl rfl ⟨rfl, rfl, rfl, rfl, rfl⟩ rfl rfl rfl rfl rfl (by kernel_rfl) Try.func8 (by kernel_rfl)
    (of_decide_eq_true (by kernel_rfl)) (by unfold Func.isWrapper; first | (rw [if_pos (by decide +kernel)]; kernel_rfl) | (rw [if_neg (by decide +kernel)]; exact ⟨rfl, rfl⟩))
    (fun os started H enc _ => lifted os started H enc)
end Go.Proofs.Ytdmlcnecildliaa.udpDecodes
namespace Go.Proofs.Ytdmlcnecildliaa
theorem udpDecodes_holds : Rows.UdpDecodesSaid := udpDecodes.over
#print axioms udpDecodes_holds
end Go.Proofs.Ytdmlcnecildliaa
namespace Go.Proofs.Ytdmlcnecildliaa
open Go.SLA
end Go.Proofs.Ytdmlcnecildliaa
