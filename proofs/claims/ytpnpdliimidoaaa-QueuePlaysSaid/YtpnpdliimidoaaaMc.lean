/- Contracts of functions of the translation, each proved by a walk over its code; they are used by the texts that import this one. -/
import Derived.Test.YtpnpdliimidoaaaMb
import Derived.Test.YtpnpdliimidoaaaH
namespace Go.Proofs.Ytpnpdliimidoaaa
open Go.SLA
set_option maxRecDepth 100000
set_option linter.unusedVariables false
set_option linter.unusedSimpArgs false
attribute [local irreducible] J L K QL Rg FSpec OpV OpX Rd Back
theorem Pass_nil (now : Int) : FSpec Try.prog 20 #[.pointer none, .int .i64 now] (emp) (fun _ : Unit => True) (fun _ => .tuple #[.slice none 0 0, .int .i64 2]) (fun _ => emp) := by
  refine FSpec.enter' Try.func20 rfl Try.ntmps20 rfl fun σ F => ?_
  refine J_emp ?_
  refine J_seq ?_
  refine J_region ?_
  refine L_x rfl (opx_box rfl rfl) (fun b3 _ => ?_)
  refine L_v (opv_assign rfl) rfl ?_
  refine L_v (opv_assign rfl) rfl ?_
  refine L_nil ?_
  refine K_then ?_
  refine J_seq ?_
  refine J_seq ?_
  refine J_region ?_
  refine L_v (opv_move rfl) rfl ?_
  refine L_v (opv_load rfl (Rd.look rfl)) rfl ?_
  refine L_x rfl (opx_call0 (timely_nil now) rfl rfl rfl) (fun _ _ => ?_)
  refine L_emp ?_
  refine L_v (opv_assign rfl) rfl ?_
  refine L_nil ?_
  refine K_then ?_
  refine J_seq ?_
  refine J_region ?_
  refine L_v (opv_move rfl) rfl ?_
  first
    | refine L_v (opv_neq rfl rfl) rfl ?_
    | refine L_v (opv_neqS rfl rfl) rfl ?_
    | refine L_v (opv_neqNil rfl rfl) rfl ?_
    | refine L_v (opv_neqB rfl rfl) rfl ?_
  refine L_nil ?_
  refine K_then ?_
  refine J_cond rfl (fun h1 => ?_) (fun h1 => absurd (show (2 : Int) ≠ 0 by decide) h1)
  refine J_seq ?_
  refine J_region ?_
  refine L_v (opv_move rfl) rfl ?_
  refine L_v (opv_assign rfl) rfl ?_
  refine L_v (opv_assign rfl) rfl ?_
  refine L_nil ?_
  refine K_then ?_
  refine J_ret ?_
  refine K_then_ret ?_
  exact K_ret2 rfl rfl rfl () trivial (rfl) Ent.take

theorem Pass_err (p : Nat) (q : List Sn) (cur free now : Int) (h : tim cur now ≠ 0) : FSpec Try.prog 20 #[.pointer (some (ad p 0)), .int .i64 now] (LineP p q cur free) (fun _ : Unit => True) (fun _ => .tuple #[.slice none 0 0, .int .i64 (tim cur now)]) (fun _ => LineP p q cur free) := by
  refine FSpec.enter' Try.func20 rfl Try.ntmps20 rfl fun σ F => ?_
  refine J_ex fun x => ?_
  refine J_eq _ (sep_assoc _ _ _) ?_
  refine J_seq ?_
  refine J_region ?_
  refine L_x rfl (opx_box rfl rfl) (fun b3 _ => ?_)
  refine L_v (opv_assign rfl) rfl ?_
  refine L_v (opv_assign rfl) rfl ?_
  refine L_nil ?_
  refine K_then ?_
  refine J_seq ?_
  refine J_seq ?_
  refine J_region ?_
  refine L_v (opv_move rfl) rfl ?_
  refine L_v (opv_load rfl (Rd.look rfl)) rfl ?_
  refine L_x rfl (opx_call0 (timely_spec p (.slice x.1 q.length x.2) cur free now) rfl rfl rfl) (fun _ _ => ?_)
  refine L_v (opv_assign rfl) rfl ?_
  refine L_nil ?_
  refine K_then ?_
  refine J_seq ?_
  refine J_region ?_
  refine L_v (opv_move rfl) rfl ?_
  first
    | refine L_v (opv_neq rfl rfl) rfl ?_
    | refine L_v (opv_neqS rfl rfl) rfl ?_
    | refine L_v (opv_neqNil rfl rfl) rfl ?_
    | refine L_v (opv_neqB rfl rfl) rfl ?_
  refine L_nil ?_
  refine K_then ?_
  refine J_cond rfl (fun h1 => ?_) (fun h1 => absurd h h1)
  refine J_seq ?_
  refine J_region ?_
  refine L_v (opv_move rfl) rfl ?_
  refine L_v (opv_assign rfl) rfl ?_
  refine L_v (opv_assign rfl) rfl ?_
  refine L_nil ?_
  refine K_then ?_
  refine J_ret ?_
  refine K_then_ret ?_
  exact K_ret2 rfl rfl rfl () trivial (rfl) (Ent.trans Ent.take (LineP.fold x.1 x.2))

theorem cut_n (n : Nat) : cutV none 0 0 0 n = .slice none 0 0 := by unfold cutV; rfl
theorem IndexFunc_none (b3 : Nat) (now : Int) : FSpec Try.prog 42 #[.slice none 0 0, .func (.func 43) #[] #[.pointer (some (ad b3 0))]] (cel b3 [.int .i64 now] 3) (fun _ : Unit => True) (fun _ => .int .i64 (-1)) (fun _ => cel b3 [.int .i64 now] 3) := by
  refine FSpec.enter' Try.func42 rfl Try.ntmps42 rfl fun σ F => ?_
  refine J_seq ?_
  refine J_region ?_
  refine L_v (opv_assign rfl) rfl ?_
  refine L_nil ?_
  refine K_then ?_
  refine J_seq ?_
  refine J_seq ?_
  refine J_region ?_
  refine L_v (opv_move rfl) rfl ?_
  first
    | refine L_v (opv_lenL rfl) rfl ?_
    | refine L_v (opv_lenS rfl) rfl ?_
  refine L_v (opv_move rfl) rfl ?_
  refine L_nil ?_
  refine K_then ?_
  refine J_block ?_
  refine J_loop (X := Unit) (fun _ => [(7, .int .i64 (0 : Nat)), (8, .int .i64 0)]) (fun _ => (sep (cel b3 [.int .i64 now] 3) (F))) (fun _ => True) (fun _ => 0) (()) trivial ⟨rfl, rfl, trivial⟩ (Ent.refl _) (fun _ _ => ?_)
  refine J_seq ?_
  refine J_region ?_
  refine L_v (opv_lss rfl rfl) rfl ?_
  refine L_nil ?_
  refine K_then ?_
  refine J_seq ?_
  refine J_cond rfl (fun h1 => by exfalso; omega) (fun h1 => ?_)
  refine J_exit ?_
  refine K_then_exit ?_
  refine K_then_exit ?_
  refine K_block_here ?_
  refine K_then ?_
  refine J_seq ?_
  refine J_region ?_
  refine L_v (opv_assign rfl) rfl ?_
  refine L_nil ?_
  refine K_then ?_
  refine J_ret ?_
  exact K_ret1 rfl rfl () trivial (rfl) Ent.take

theorem cut_a (b o n : Nat) : cutV (some (ad b o)) 0 n n 4 = .slice (some (ad b o)) n n := by
  rw [cutV_at]
  simp
theorem cut_b (b o n l c : Nat) : cutV (some (ad b o)) n l c 4 = .slice (some (ad b (if c = n then o else o + n * 4))) (l - n) (c - n) := cutV_at b o n l c 4

theorem IndexFunc_yes (b b3 : Nat) (pre post : List Value) (q : List Sn) (c : Nat) (now : Int) (hq : q.length ≤ 9000000000000000000) (h : fst q now < q.length) : FSpec Try.prog 42 #[.slice (some (ad b pre.length)) q.length c, .func (.func 43) #[] #[.pointer (some (ad b3 0))]] ((sep (cel b (pre ++ flat q ++ post) 30) (cel b3 [.int .i64 now] 3))) (fun _ : Unit => True) (fun _ => .int .i64 (fst q now)) (fun _ => (sep (cel b (pre ++ flat q ++ post) 30) (cel b3 [.int .i64 now] 3))) := by
  have := IndexFunc_spec b b3 pre post q c now hq
  rwa [if_pos h] at this
theorem IndexFunc_no (b b3 : Nat) (pre post : List Value) (q : List Sn) (c : Nat) (now : Int) (hq : q.length ≤ 9000000000000000000) (h : fst q now = q.length) : FSpec Try.prog 42 #[.slice (some (ad b pre.length)) q.length c, .func (.func 43) #[] #[.pointer (some (ad b3 0))]] ((sep (cel b (pre ++ flat q ++ post) 30) (cel b3 [.int .i64 now] 3))) (fun _ : Unit => True) (fun _ => .int .i64 (-1)) (fun _ => (sep (cel b (pre ++ flat q ++ post) 30) (cel b3 [.int .i64 now] 3))) := by
  have := IndexFunc_spec b b3 pre post q c now hq
  rwa [if_neg (by omega)] at this

theorem Pass_blk_yes (p b c : Nat) (pre post : List Value) (q : List Sn) (cur free now : Int) (h : tim cur now = 0) (hc : q.length ≤ c) (hq : q.length ≤ 9000000000000000000) (hn : fst q now < q.length) : FSpec Try.prog 20 #[.pointer (some (ad p 0)), .int .i64 now] ((sep (cel p [.slice (some (ad b pre.length)) q.length c, .int .i64 cur, .int .i64 free] 76) (cel b (pre ++ flat q ++ post) 30))) (fun _ : Unit => True) (fun _ => .tuple #[.slice (some (ad b pre.length)) (fst q now) (fst q now), .int .i64 0]) (fun _ => (sep (cel p [.slice (some (ad b (if c = (fst q now) then pre.length else pre.length + (fst q now) * 4))) (q.length - (fst q now)) (c - (fst q now)), .int .i64 now, .int .i64 free] 76) (cel b (pre ++ flat q ++ post) 30))) := by
  have hle := fst_le q now
  refine FSpec.enter' Try.func20 rfl Try.ntmps20 rfl fun σ F => ?_
  refine J_eq _ (sep_assoc _ _ _) ?_
  refine J_seq ?_
  refine J_region ?_
  refine L_x rfl (opx_box rfl rfl) (fun b3 _ => ?_)
  refine L_v (opv_assign rfl) rfl ?_
  refine L_v (opv_assign rfl) rfl ?_
  refine L_nil ?_
  refine K_then ?_
  refine J_seq ?_
  refine J_seq ?_
  refine J_region ?_
  refine L_v (opv_move rfl) rfl ?_
  refine L_v (opv_load rfl (Rd.look rfl)) rfl ?_
  refine L_x rfl (opx_call0 (timely_spec p (.slice (some (ad b pre.length)) q.length c) cur free now) rfl rfl rfl) (fun _ _ => ?_)
  refine L_v (opv_assign rfl) rfl ?_
  refine L_nil ?_
  refine K_then ?_
  refine J_seq ?_
  refine J_region ?_
  refine L_v (opv_move rfl) rfl ?_
  first
    | refine L_v (opv_neq rfl rfl) rfl ?_
    | refine L_v (opv_neqS rfl rfl) rfl ?_
    | refine L_v (opv_neqNil rfl rfl) rfl ?_
    | refine L_v (opv_neqB rfl rfl) rfl ?_
  refine L_nil ?_
  refine K_then ?_
  refine J_cond rfl (fun h1 => absurd h h1) (fun h1 => ?_)
  refine J_skip ?_
  refine K_then ?_
  refine J_seq ?_
  refine J_region ?_
  refine L_v (opv_move rfl) rfl ?_
  refine L_v (opv_load rfl (Rd.look rfl)) rfl ?_
  refine L_v (opv_nilCheck rfl) rfl ?_
  first
    | refine L_v (opv_fieldAddr0 rfl) rfl ?_
    | refine L_v (opv_fieldAddr rfl) rfl ?_
  refine L_x rfl (opx_store rfl rfl rfl (by simp [Value.oneCell'])) (fun _ _ => ?_)
  refine L_nil ?_
  refine K_then ?_
  refine J_seq ?_
  refine J_region ?_
  refine L_v (opv_move rfl) rfl ?_
  refine L_v (opv_nilCheck rfl) rfl ?_
  first
    | refine L_v (opv_fieldAddr0 rfl) rfl ?_
    | refine L_v (opv_fieldAddr rfl) rfl ?_
  refine L_v (opv_load rfl (Rd.look rfl)) rfl ?_
  refine L_v (opv_makeFunc rfl rfl) rfl ?_
  refine L_x rfl (opx_call0 (IndexFunc_yes b b3 pre post q c now hq hn) rfl rfl rfl) (fun _ _ => ?_)
  refine L_v (opv_assign rfl) rfl ?_
  refine L_nil ?_
  refine K_then ?_
  refine J_seq ?_
  refine J_seq ?_
  refine J_region ?_
  refine L_v (opv_move rfl) rfl ?_
  refine L_v (opv_lss rfl rfl) rfl ?_
  refine L_nil ?_
  refine K_then ?_
  refine J_cond rfl (fun h2 => by exfalso; omega) (fun h2 => ?_)
  refine J_skip ?_
  refine K_then ?_
  refine J_seq ?_
  refine J_region ?_
  refine L_v (opv_move rfl) rfl ?_
  refine L_v (opv_nilCheck rfl) rfl ?_
  first
    | refine L_v (opv_fieldAddr0 rfl) rfl ?_
    | refine L_v (opv_fieldAddr rfl) rfl ?_
  refine L_v (opv_load rfl (Rd.look rfl)) rfl ?_
  refine L_v (opv_move rfl) rfl ?_
  refine L_v (opv_move rfl) rfl ?_
  refine L_v (opv_sliceLhm rfl rfl rfl (by omega)) rfl ?_
  rw [Int.toNat_natCast, cut_a]
  refine L_v (opv_assign rfl) rfl ?_
  refine L_nil ?_
  refine K_then ?_
  refine J_seq ?_
  refine J_region ?_
  refine L_v (opv_move rfl) rfl ?_
  refine L_v (opv_move rfl) rfl ?_
  refine L_v (opv_nilCheck rfl) rfl ?_
  first
    | refine L_v (opv_fieldAddr0 rfl) rfl ?_
    | refine L_v (opv_fieldAddr rfl) rfl ?_
  refine L_v (opv_load rfl (Rd.look rfl)) rfl ?_
  refine L_v (opv_move rfl) rfl ?_
  first
    | refine L_v (opv_sliceLlo rfl rfl (by omega)) rfl ?_
    | refine L_v (opv_sliceSlo rfl rfl (by omega)) rfl ?_
  rw [Int.toNat_natCast, cut_b]
  refine L_v (opv_nilCheck rfl) rfl ?_
  first
    | refine L_v (opv_fieldAddr0 rfl) rfl ?_
    | refine L_v (opv_fieldAddr rfl) rfl ?_
  refine L_x rfl (opx_store rfl rfl rfl (by simp [Value.oneCell'])) (fun _ _ => ?_)
  refine L_nil ?_
  refine K_then ?_
  refine J_seq ?_
  refine J_region ?_
  refine L_v (opv_move rfl) rfl ?_
  refine L_v (opv_assign rfl) rfl ?_
  refine L_v (opv_assign rfl) rfl ?_
  refine L_nil ?_
  refine K_then ?_
  refine J_ret ?_
  exact K_ret2 rfl rfl rfl () trivial (rfl) Ent.take

theorem Pass_blk_no (p b c : Nat) (pre post : List Value) (q : List Sn) (cur free now : Int) (h : tim cur now = 0) (hc : q.length ≤ c) (hq : q.length ≤ 9000000000000000000) (hn : fst q now = q.length) : FSpec Try.prog 20 #[.pointer (some (ad p 0)), .int .i64 now] ((sep (cel p [.slice (some (ad b pre.length)) q.length c, .int .i64 cur, .int .i64 free] 76) (cel b (pre ++ flat q ++ post) 30))) (fun _ : Unit => True) (fun _ => .tuple #[.slice (some (ad b pre.length)) q.length q.length, .int .i64 0]) (fun _ => (sep (cel p [.slice (some (ad b (if c = q.length then pre.length else pre.length + q.length * 4))) (q.length - q.length) (c - q.length), .int .i64 now, .int .i64 free] 76) (cel b (pre ++ flat q ++ post) 30))) := by
  have hle := fst_le q now
  refine FSpec.enter' Try.func20 rfl Try.ntmps20 rfl fun σ F => ?_
  refine J_eq _ (sep_assoc _ _ _) ?_
  refine J_seq ?_
  refine J_region ?_
  refine L_x rfl (opx_box rfl rfl) (fun b3 _ => ?_)
  refine L_v (opv_assign rfl) rfl ?_
  refine L_v (opv_assign rfl) rfl ?_
  refine L_nil ?_
  refine K_then ?_
  refine J_seq ?_
  refine J_seq ?_
  refine J_region ?_
  refine L_v (opv_move rfl) rfl ?_
  refine L_v (opv_load rfl (Rd.look rfl)) rfl ?_
  refine L_x rfl (opx_call0 (timely_spec p (.slice (some (ad b pre.length)) q.length c) cur free now) rfl rfl rfl) (fun _ _ => ?_)
  refine L_v (opv_assign rfl) rfl ?_
  refine L_nil ?_
  refine K_then ?_
  refine J_seq ?_
  refine J_region ?_
  refine L_v (opv_move rfl) rfl ?_
  first
    | refine L_v (opv_neq rfl rfl) rfl ?_
    | refine L_v (opv_neqS rfl rfl) rfl ?_
    | refine L_v (opv_neqNil rfl rfl) rfl ?_
    | refine L_v (opv_neqB rfl rfl) rfl ?_
  refine L_nil ?_
  refine K_then ?_
  refine J_cond rfl (fun h1 => absurd h h1) (fun h1 => ?_)
  refine J_skip ?_
  refine K_then ?_
  refine J_seq ?_
  refine J_region ?_
  refine L_v (opv_move rfl) rfl ?_
  refine L_v (opv_load rfl (Rd.look rfl)) rfl ?_
  refine L_v (opv_nilCheck rfl) rfl ?_
  first
    | refine L_v (opv_fieldAddr0 rfl) rfl ?_
    | refine L_v (opv_fieldAddr rfl) rfl ?_
  refine L_x rfl (opx_store rfl rfl rfl (by simp [Value.oneCell'])) (fun _ _ => ?_)
  refine L_nil ?_
  refine K_then ?_
  refine J_seq ?_
  refine J_region ?_
  refine L_v (opv_move rfl) rfl ?_
  refine L_v (opv_nilCheck rfl) rfl ?_
  first
    | refine L_v (opv_fieldAddr0 rfl) rfl ?_
    | refine L_v (opv_fieldAddr rfl) rfl ?_
  refine L_v (opv_load rfl (Rd.look rfl)) rfl ?_
  refine L_v (opv_makeFunc rfl rfl) rfl ?_
  refine L_x rfl (opx_call0 (IndexFunc_no b b3 pre post q c now hq hn) rfl rfl rfl) (fun _ _ => ?_)
  refine L_v (opv_assign rfl) rfl ?_
  refine L_nil ?_
  refine K_then ?_
  refine J_seq ?_
  refine J_seq ?_
  refine J_region ?_
  refine L_v (opv_move rfl) rfl ?_
  refine L_v (opv_lss rfl rfl) rfl ?_
  refine L_nil ?_
  refine K_then ?_
  refine J_cond rfl (fun h2 => ?_) (fun h2 => by exfalso; omega)
  refine J_region ?_
  refine L_v (opv_move rfl) rfl ?_
  refine L_v (opv_nilCheck rfl) rfl ?_
  first
    | refine L_v (opv_fieldAddr0 rfl) rfl ?_
    | refine L_v (opv_fieldAddr rfl) rfl ?_
  refine L_v (opv_load rfl (Rd.look rfl)) rfl ?_
  first
    | refine L_v (opv_lenL rfl) rfl ?_
    | refine L_v (opv_lenS rfl) rfl ?_
  refine L_v (opv_assign rfl) rfl ?_
  refine L_nil ?_
  refine K_then ?_
  refine J_seq ?_
  refine J_region ?_
  refine L_v (opv_move rfl) rfl ?_
  refine L_v (opv_nilCheck rfl) rfl ?_
  first
    | refine L_v (opv_fieldAddr0 rfl) rfl ?_
    | refine L_v (opv_fieldAddr rfl) rfl ?_
  refine L_v (opv_load rfl (Rd.look rfl)) rfl ?_
  refine L_v (opv_move rfl) rfl ?_
  refine L_v (opv_move rfl) rfl ?_
  refine L_v (opv_sliceLhm rfl rfl rfl (by omega)) rfl ?_
  rw [Int.toNat_natCast, cut_a]
  refine L_v (opv_assign rfl) rfl ?_
  refine L_nil ?_
  refine K_then ?_
  refine J_seq ?_
  refine J_region ?_
  refine L_v (opv_move rfl) rfl ?_
  refine L_v (opv_move rfl) rfl ?_
  refine L_v (opv_nilCheck rfl) rfl ?_
  first
    | refine L_v (opv_fieldAddr0 rfl) rfl ?_
    | refine L_v (opv_fieldAddr rfl) rfl ?_
  refine L_v (opv_load rfl (Rd.look rfl)) rfl ?_
  refine L_v (opv_move rfl) rfl ?_
  first
    | refine L_v (opv_sliceLlo rfl rfl (by omega)) rfl ?_
    | refine L_v (opv_sliceSlo rfl rfl (by omega)) rfl ?_
  rw [Int.toNat_natCast, cut_b]
  refine L_v (opv_nilCheck rfl) rfl ?_
  first
    | refine L_v (opv_fieldAddr0 rfl) rfl ?_
    | refine L_v (opv_fieldAddr rfl) rfl ?_
  refine L_x rfl (opx_store rfl rfl rfl (by simp [Value.oneCell'])) (fun _ _ => ?_)
  refine L_nil ?_
  refine K_then ?_
  refine J_seq ?_
  refine J_region ?_
  refine L_v (opv_move rfl) rfl ?_
  refine L_v (opv_assign rfl) rfl ?_
  refine L_v (opv_assign rfl) rfl ?_
  refine L_nil ?_
  refine K_then ?_
  refine J_ret ?_
  exact K_ret2 rfl rfl rfl () trivial (rfl) Ent.take

theorem Pass_blk_none (p : Nat) (cur free now : Int) (h : tim cur now = 0) : FSpec Try.prog 20 #[.pointer (some (ad p 0)), .int .i64 now] (cel p [.slice none 0 0, .int .i64 cur, .int .i64 free] 76) (fun _ : Unit => True) (fun _ => .tuple #[.slice none 0 0, .int .i64 0]) (fun _ => cel p [.slice none 0 0, .int .i64 now, .int .i64 free] 76) := by
  refine FSpec.enter' Try.func20 rfl Try.ntmps20 rfl fun σ F => ?_
  refine J_seq ?_
  refine J_region ?_
  refine L_x rfl (opx_box rfl rfl) (fun b3 _ => ?_)
  refine L_v (opv_assign rfl) rfl ?_
  refine L_v (opv_assign rfl) rfl ?_
  refine L_nil ?_
  refine K_then ?_
  refine J_seq ?_
  refine J_seq ?_
  refine J_region ?_
  refine L_v (opv_move rfl) rfl ?_
  refine L_v (opv_load rfl (Rd.look rfl)) rfl ?_
  refine L_x rfl (opx_call0 (timely_spec p (.slice none 0 0) cur free now) rfl rfl rfl) (fun _ _ => ?_)
  refine L_v (opv_assign rfl) rfl ?_
  refine L_nil ?_
  refine K_then ?_
  refine J_seq ?_
  refine J_region ?_
  refine L_v (opv_move rfl) rfl ?_
  first
    | refine L_v (opv_neq rfl rfl) rfl ?_
    | refine L_v (opv_neqS rfl rfl) rfl ?_
    | refine L_v (opv_neqNil rfl rfl) rfl ?_
    | refine L_v (opv_neqB rfl rfl) rfl ?_
  refine L_nil ?_
  refine K_then ?_
  refine J_cond rfl (fun h1 => absurd h h1) (fun h1 => ?_)
  refine J_skip ?_
  refine K_then ?_
  refine J_seq ?_
  refine J_region ?_
  refine L_v (opv_move rfl) rfl ?_
  refine L_v (opv_load rfl (Rd.look rfl)) rfl ?_
  refine L_v (opv_nilCheck rfl) rfl ?_
  first
    | refine L_v (opv_fieldAddr0 rfl) rfl ?_
    | refine L_v (opv_fieldAddr rfl) rfl ?_
  refine L_x rfl (opx_store rfl rfl rfl (by simp [Value.oneCell'])) (fun _ _ => ?_)
  refine L_nil ?_
  refine K_then ?_
  refine J_seq ?_
  refine J_region ?_
  refine L_v (opv_move rfl) rfl ?_
  refine L_v (opv_nilCheck rfl) rfl ?_
  first
    | refine L_v (opv_fieldAddr0 rfl) rfl ?_
    | refine L_v (opv_fieldAddr rfl) rfl ?_
  refine L_v (opv_load rfl (Rd.look rfl)) rfl ?_
  refine L_v (opv_makeFunc rfl rfl) rfl ?_
  refine L_x rfl (opx_call0 (IndexFunc_none b3 now) rfl rfl rfl) (fun _ _ => ?_)
  refine L_v (opv_assign rfl) rfl ?_
  refine L_nil ?_
  refine K_then ?_
  refine J_seq ?_
  refine J_seq ?_
  refine J_region ?_
  refine L_v (opv_move rfl) rfl ?_
  refine L_v (opv_lss rfl rfl) rfl ?_
  refine L_nil ?_
  refine K_then ?_
  refine J_cond rfl (fun h2 => ?_) (fun h2 => by exfalso; omega)
  refine J_region ?_
  refine L_v (opv_move rfl) rfl ?_
  refine L_v (opv_nilCheck rfl) rfl ?_
  first
    | refine L_v (opv_fieldAddr0 rfl) rfl ?_
    | refine L_v (opv_fieldAddr rfl) rfl ?_
  refine L_v (opv_load rfl (Rd.look rfl)) rfl ?_
  first
    | refine L_v (opv_lenL rfl) rfl ?_
    | refine L_v (opv_lenS rfl) rfl ?_
  refine L_v (opv_assign rfl) rfl ?_
  refine L_nil ?_
  refine K_then ?_
  refine J_seq ?_
  refine J_region ?_
  refine L_v (opv_move rfl) rfl ?_
  refine L_v (opv_nilCheck rfl) rfl ?_
  first
    | refine L_v (opv_fieldAddr0 rfl) rfl ?_
    | refine L_v (opv_fieldAddr rfl) rfl ?_
  refine L_v (opv_load rfl (Rd.look rfl)) rfl ?_
  refine L_v (opv_move rfl) rfl ?_
  refine L_v (opv_move rfl) rfl ?_
  refine L_v (opv_sliceLhm rfl rfl rfl (by omega)) rfl ?_
  rw [show cutV none 0 (Int.toNat ((0 : Nat) : Int)) (Int.toNat ((0 : Nat) : Int)) 4 = .slice none 0 0 from rfl]
  refine L_v (opv_assign rfl) rfl ?_
  refine L_nil ?_
  refine K_then ?_
  refine J_seq ?_
  refine J_region ?_
  refine L_v (opv_move rfl) rfl ?_
  refine L_v (opv_move rfl) rfl ?_
  refine L_v (opv_nilCheck rfl) rfl ?_
  first
    | refine L_v (opv_fieldAddr0 rfl) rfl ?_
    | refine L_v (opv_fieldAddr rfl) rfl ?_
  refine L_v (opv_load rfl (Rd.look rfl)) rfl ?_
  refine L_v (opv_move rfl) rfl ?_
  first
    | refine L_v (opv_sliceLlo rfl rfl (by omega)) rfl ?_
    | refine L_v (opv_sliceSlo rfl rfl (by omega)) rfl ?_
  rw [show cutV none (Int.toNat ((0 : Nat) : Int)) 0 0 4 = .slice none 0 0 from rfl]
  refine L_v (opv_nilCheck rfl) rfl ?_
  first
    | refine L_v (opv_fieldAddr0 rfl) rfl ?_
    | refine L_v (opv_fieldAddr rfl) rfl ?_
  refine L_x rfl (opx_store rfl rfl rfl (by simp [Value.oneCell'])) (fun _ _ => ?_)
  refine L_nil ?_
  refine K_then ?_
  refine J_seq ?_
  refine J_region ?_
  refine L_v (opv_move rfl) rfl ?_
  refine L_v (opv_assign rfl) rfl ?_
  refine L_v (opv_assign rfl) rfl ?_
  refine L_nil ?_
  refine K_then ?_
  refine J_ret ?_
  exact K_ret2 rfl rfl rfl () trivial (rfl) Ent.take

end Go.Proofs.Ytpnpdliimidoaaa
