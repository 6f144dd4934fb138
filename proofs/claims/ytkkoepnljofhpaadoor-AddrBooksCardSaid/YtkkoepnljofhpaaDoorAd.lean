/- Contracts of functions of the package addr at the addresses that the laws' watch asks for, each proved by a walk over its code; they are used by the texts that import this one. -/
import Derived.Test.YtkkoepnljofhpaaDoorAc
import Derived.Test.YtkkoepnljofhpaaDoorH
namespace Go.Proofs.YtkkoepnljofhpaaDoor
open Go.SLA
set_option maxRecDepth 100000
set_option linter.unusedVariables false
set_option linter.unusedSimpArgs false
attribute [local irreducible] J L K QL Rg FSpec OpV OpX Rd Back

section
variable {prog : Program} {σ : World} {n : Nat} {E : Env} {P F : HProp}
theorem results_tmp4 {fn : Func} {t u s r : Tmp} (h : fn.results = #[.tmp t, .tmp u, .tmp s, .tmp r]) (tmps : Array Value) (P : Program) (w : World) :
    (results fn tmps).run P w = .ok (.tuple #[tmps.getD t undef, tmps.getD u undef, tmps.getD s undef, tmps.getD r undef]) w := by
  simp [results, h]
theorem K_ret4 {fn : Func} {t u s r : Tmp} {v v' v'' v3 : Value} {X : Type} {φ : X → Prop} {val : X → Value} {Qo : X → HProp} (hr : fn.results = #[.tmp t, .tmp u, .tmp s, .tmp r]) (hv : Env.get E t = some v) (hv' : Env.get E u = some v') (hv'' : Env.get E s = some v'') (hv3 : Env.get E r = some v3) (x : X) (hx : φ x)
    (hvx : .tuple #[v, v', v'', v3] = val x) (hp : Ent P (sep (Qo x) (F))) : K σ n (bodyPost prog fn (Back σ φ val Qo F)) .ret E P := by
  unfold K Back
  exact fun a w ha hs =>
  ⟨ha.defers, _, results_tmp4 hr a.tmps prog w, x, hx, by
    rw [Array.getD_eq_getD_getElem?, Array.getD_eq_getD_getElem?, Array.getD_eq_getD_getElem?, Array.getD_eq_getD_getElem?, ha.slot t v hv, ha.slot u v' hv', ha.slot s v'' hv'', ha.slot r v3 hv3]; exact congrArg _ hvx, hs.ent hp⟩
end

theorem one_0_7  : FSpec Tryd.prog 41 #[.int .u8 0, .int .u8 7] (emp) (fun _ : Unit => True) (fun _ => .int .i64 7) (fun _ => emp) := by
  refine FSpec.enter' Tryd.func41 rfl Tryd.ntmps41 rfl fun σ F => ?_
  refine J_seq ?_
  refine J_region ?_
  refine L_v (opv_assign rfl) rfl ?_
  refine L_nil ?_
  refine K_then ?_
  refine J_seq ?_
  refine J_region ?_
  refine L_v (opv_move rfl) rfl ?_
  refine L_v ((opv_convert rfl).as (v' := .int .i64 0) (congrArg (Value.int .i64) (by decide))) rfl ?_
  refine L_v ((opv_shl rfl rfl (by decide)).as (v' := .int .i64 0) (congrArg (Value.int .i64) (by decide))) rfl ?_
  refine L_v (opv_move rfl) rfl ?_
  refine L_v ((opv_convert rfl).as (v' := .int .i64 7) (congrArg (Value.int .i64) (by decide))) rfl ?_
  refine L_v ((opv_or rfl rfl).as (v' := .int .i64 7) (congrArg (Value.int .i64) (by decide))) rfl ?_
  refine L_v (opv_assign rfl) rfl ?_
  refine L_nil ?_
  refine K_then ?_
  refine J_ret ?_
  exact K_ret1 rfl rfl () trivial (rfl) (Ent.refl _)

theorem one_7_2  : FSpec Tryd.prog 41 #[.int .u8 7, .int .u8 2] (emp) (fun _ : Unit => True) (fun _ => .int .i64 1794) (fun _ => emp) := by
  refine FSpec.enter' Tryd.func41 rfl Tryd.ntmps41 rfl fun σ F => ?_
  refine J_seq ?_
  refine J_region ?_
  refine L_v (opv_assign rfl) rfl ?_
  refine L_nil ?_
  refine K_then ?_
  refine J_seq ?_
  refine J_region ?_
  refine L_v (opv_move rfl) rfl ?_
  refine L_v ((opv_convert rfl).as (v' := .int .i64 7) (congrArg (Value.int .i64) (by decide))) rfl ?_
  refine L_v ((opv_shl rfl rfl (by decide)).as (v' := .int .i64 1792) (congrArg (Value.int .i64) (by decide))) rfl ?_
  refine L_v (opv_move rfl) rfl ?_
  refine L_v ((opv_convert rfl).as (v' := .int .i64 2) (congrArg (Value.int .i64) (by decide))) rfl ?_
  refine L_v ((opv_or rfl rfl).as (v' := .int .i64 1794) (congrArg (Value.int .i64) (by decide))) rfl ?_
  refine L_v (opv_assign rfl) rfl ?_
  refine L_nil ?_
  refine K_then ?_
  refine J_ret ?_
  exact K_ret1 rfl rfl () trivial (rfl) (Ent.refl _)


theorem Source_71 : FSpec Tryd.prog 13 #[.agg [.int .i64 7, .int .i64 1].toArray] emp (fun _ : Unit => True) (fun _ => .tuple #[.agg [.int .u8 2, .int .u8 0, .int .u8 0, .int .u8 0, .int .u8 7, .int .u8 64].toArray, .int .i64 0]) (fun _ => emp) := Source_ok 7 1 (by decide) (by decide)
theorem Part_72 : FSpec Tryd.prog 15 #[.int .i64 7, .int .i64 2] emp (fun _ : Unit => True) (fun _ => .tuple #[.agg [.int .u8 10, .int .u8 0, .int .u8 7, .int .u8 2].toArray, .int .i64 0]) (fun _ => emp) := Part_ok 7 2 (by decide) (by decide)

theorem Of_w  : FSpec Tryd.prog 24 #[.agg [.int .u8 2, .int .u8 0, .int .u8 0, .int .u8 0, .int .u8 7, .int .u8 64].toArray] (emp) (fun _ : Unit => True) (fun _ => .tuple #[.agg [.int .i64 7, .int .i64 1].toArray, .int .i64 0]) (fun _ => emp) := by
  refine FSpec.enter' Tryd.func24 rfl Tryd.ntmps24 rfl fun σ F => ?_
  refine J_emp ?_
  refine J_seq ?_
  refine J_region ?_
  refine L_x rfl (opx_box (l := [.int .u8 2, .int .u8 0, .int .u8 0, .int .u8 0, .int .u8 7, .int .u8 64]) rfl rfl) (fun b1 _ => ?_)
  refine L_x rfl (opx_alloc rfl) (fun b2 _ => ?_)
  refine L_v (opv_assign rfl) rfl ?_
  refine L_nil ?_
  refine K_then ?_
  refine J_seq ?_
  refine J_steps (cel b1 [.int .u8 2, .int .u8 0, .int .u8 0, .int .u8 0, .int .u8 7, .int .u8 64] 23) (cel b1 [.int .u8 2, .int .u8 0, .int .u8 0, .int .u8 0, .int .u8 7, .int .u8 64] 23) [] Tryd.mixed ?_
  first
    | refine R_pure 0 rfl (by kernel_rfl) (by kernel_rfl) (by kernel_rfl) (by kernel_rfl) (.inr ⟨_, Take.eq (A := cel b1 [.int .u8 2, .int .u8 0, .int .u8 0, .int .u8 0, .int .u8 7, .int .u8 64] 23)⟩) (opv_indexAddr rfl rfl (by omega)) rfl ?_
    | refine R_pure 0 rfl (by kernel_rfl) (by kernel_rfl) (by kernel_rfl) (by kernel_rfl) (.inr ⟨_, Take.eq (A := cel b1 [.int .u8 2, .int .u8 0, .int .u8 0, .int .u8 0, .int .u8 7, .int .u8 64] 23)⟩) (opv_indexAddrA rfl rfl (by omega)) rfl ?_
  refine R_take 1 rfl (by kernel_rfl) (by kernel_rfl) (by kernel_rfl) (by kernel_rfl) (by kernel_rfl) (opv_load rfl (Rd.look rfl)) rfl ?_
  first
    | refine R_pure 2 rfl (by kernel_rfl) (by kernel_rfl) (by kernel_rfl) (by kernel_rfl) (.inr ⟨_, Take.eq (A := cel b1 [.int .u8 2, .int .u8 0, .int .u8 0, .int .u8 0, .int .u8 7, .int .u8 64] 23)⟩) (opv_indexAddr rfl rfl (by omega)) rfl ?_
    | refine R_pure 2 rfl (by kernel_rfl) (by kernel_rfl) (by kernel_rfl) (by kernel_rfl) (.inr ⟨_, Take.eq (A := cel b1 [.int .u8 2, .int .u8 0, .int .u8 0, .int .u8 0, .int .u8 7, .int .u8 64] 23)⟩) (opv_indexAddrA rfl rfl (by omega)) rfl ?_
  refine R_take 3 rfl (by kernel_rfl) (by kernel_rfl) (by kernel_rfl) (by kernel_rfl) (by kernel_rfl) (opv_load rfl (Rd.look rfl)) rfl ?_
  first
    | refine R_pure 5 rfl (by kernel_rfl) (by kernel_rfl) (by kernel_rfl) (by kernel_rfl) (.inr ⟨_, Take.eq (A := cel b1 [.int .u8 2, .int .u8 0, .int .u8 0, .int .u8 0, .int .u8 7, .int .u8 64] 23)⟩) (opv_indexAddr rfl rfl (by omega)) rfl ?_
    | refine R_pure 5 rfl (by kernel_rfl) (by kernel_rfl) (by kernel_rfl) (by kernel_rfl) (.inr ⟨_, Take.eq (A := cel b1 [.int .u8 2, .int .u8 0, .int .u8 0, .int .u8 0, .int .u8 7, .int .u8 64] 23)⟩) (opv_indexAddrA rfl rfl (by omega)) rfl ?_
  refine R_take 6 rfl (by kernel_rfl) (by kernel_rfl) (by kernel_rfl) (by kernel_rfl) (by kernel_rfl) (opv_load rfl (Rd.look rfl)) rfl ?_
  refine R_pure 7 rfl (by kernel_rfl) (by kernel_rfl) (by kernel_rfl) (by kernel_rfl) (.inr ⟨_, Take.eq (A := cel b1 [.int .u8 2, .int .u8 0, .int .u8 0, .int .u8 0, .int .u8 7, .int .u8 64] 23)⟩) ((opv_quo rfl rfl (by decide)).as (v' := .int .u8 2) (congrArg (Value.int .u8) (by decide))) rfl ?_
  refine R_pure 8 rfl (by kernel_rfl) (by kernel_rfl) (by kernel_rfl) (by kernel_rfl) (.inr ⟨_, Take.eq (A := cel b1 [.int .u8 2, .int .u8 0, .int .u8 0, .int .u8 0, .int .u8 7, .int .u8 64] 23)⟩) ((opv_convert rfl).as (v' := .int .i64 2) (congrArg (Value.int .i64) (by decide))) rfl ?_
  refine R_pure 9 rfl (by kernel_rfl) (by kernel_rfl) (by kernel_rfl) (by kernel_rfl) (.inr ⟨_, Take.eq (A := cel b1 [.int .u8 2, .int .u8 0, .int .u8 0, .int .u8 0, .int .u8 7, .int .u8 64] 23)⟩) ((opv_sub64 rfl rfl (by decide)).as (v' := .int .i64 1) rfl) rfl ?_
  refine R_all [4, 11] (by kernel_rfl) rfl fun i hi => ?_
  simp only [List.mem_cons, List.not_mem_nil, or_false] at hi
  rcases hi with rfl | rfl
  · refine ⟨_, _, _, _, _, rfl, rfl, (opx_call0 (one_0_7) rfl rfl rfl), fun _ _ => ⟨⟨_, Take.eq (A := cel b1 [.int .u8 2, .int .u8 0, .int .u8 0, .int .u8 0, .int .u8 7, .int .u8 64] 23)⟩, .inr ⟨_, Take.eq (A := cel b1 [.int .u8 2, .int .u8 0, .int .u8 0, .int .u8 0, .int .u8 7, .int .u8 64] 23)⟩, ?_⟩⟩
    refine Rg_emp ?_
    refine R_pure 10 rfl (by kernel_rfl) (by kernel_rfl) (by kernel_rfl) (by kernel_rfl) (.inr ⟨_, Take.eq (A := cel b1 [.int .u8 2, .int .u8 0, .int .u8 0, .int .u8 0, .int .u8 7, .int .u8 64] 23)⟩) (opv_build rfl) rfl ?_
    refine R_only 11 rfl rfl (by kernel_rfl) (opx_alloc rfl) (fun _ _ => ⟨_, Take.eq (A := cel b1 [.int .u8 2, .int .u8 0, .int .u8 0, .int .u8 0, .int .u8 7, .int .u8 64] 23)⟩) (.inr fun _ _ => ⟨_, Take.eq (A := cel b1 [.int .u8 2, .int .u8 0, .int .u8 0, .int .u8 0, .int .u8 7, .int .u8 64] 23)⟩) (fun b4 _ => ?_)
    refine R_only 12 rfl rfl (by kernel_rfl) (opx_store rfl rfl rfl (by simp [Value.oneCell'])) (fun _ _ => ⟨_, Take.eq (A := cel b1 [.int .u8 2, .int .u8 0, .int .u8 0, .int .u8 0, .int .u8 7, .int .u8 64] 23)⟩) (.inr fun _ _ => ⟨_, Take.eq (A := cel b1 [.int .u8 2, .int .u8 0, .int .u8 0, .int .u8 0, .int .u8 7, .int .u8 64] 23)⟩) (fun _ _ => ?_)
    refine R_done (by kernel_rfl) ?_
    refine K_then ?_
    refine J_seq ?_
    refine J_seq ?_
    refine J_region ?_
    refine L_v (opv_loadS rfl) rfl ?_
    refine L_x rfl (opx_call0 (Source_71) rfl rfl rfl) (fun _ _ => ?_)
    refine L_emp ?_
    refine L_v (opv_move rfl) rfl ?_
    refine L_v (opv_extract (v := .agg [.int .u8 2, .int .u8 0, .int .u8 0, .int .u8 0, .int .u8 7, .int .u8 64].toArray) rfl rfl) rfl ?_
    refine L_v (opv_extract rfl rfl) rfl ?_
    refine L_x rfl (opx_alloc rfl) (fun b5 _ => ?_)
    refine L_x rfl (opx_store rfl rfl rfl (by simp [Value.oneCell'])) (fun _ _ => ?_)
    refine L_v (opv_assign rfl) rfl ?_
    refine L_nil ?_
    refine K_then ?_
    refine J_seq ?_
    refine J_region ?_
    refine L_v (opv_move rfl) rfl ?_
    refine L_v ((opv_neq rfl rfl).bool_f (by decide)) rfl ?_
    refine L_v (opv_move rfl) rfl ?_
    refine L_gon rfl rfl rfl ?_
    refine L_v (opv_loadS rfl) rfl ?_
    refine L_gon rfl rfl rfl ?_
    refine L_v (opv_loadS rfl) rfl ?_
    refine L_gon rfl rfl rfl ?_
    refine L_v ((opv_neqF rfl rfl (by simp [Shape, CK.sh]) (by simp [Shape, CK.sh])).bool_f (fun n => n rfl)) rfl ?_
    first
      | refine L_v (opv_pick_tt rfl rfl) rfl ?_
      | refine L_v (opv_pick_ff rfl rfl) rfl ?_
      | refine L_v (opv_pick rfl rfl rfl) rfl ?_
    refine L_nil ?_
    refine K_then ?_
    refine J_cond_false rfl ?_
    refine J_skip ?_
    refine K_then ?_
    refine J_seq ?_
    refine J_region ?_
    refine L_v (opv_loadS rfl) rfl ?_
    refine L_x rfl (opx_store rfl rfl rfl (by simp [Value.oneCell'])) (fun _ _ => ?_)
    refine L_v (opv_assign rfl) rfl ?_
    refine L_nil ?_
    refine K_then ?_
    refine J_ret ?_
    exact K_ret2c rfl rfl rfl rfl () trivial rfl Ent.take
  · refine ⟨_, _, _, _, _, rfl, rfl, (opx_alloc rfl), fun b4 _ => ⟨⟨_, Take.eq (A := cel b1 [.int .u8 2, .int .u8 0, .int .u8 0, .int .u8 0, .int .u8 7, .int .u8 64] 23)⟩, .inr ⟨_, Take.eq (A := cel b1 [.int .u8 2, .int .u8 0, .int .u8 0, .int .u8 0, .int .u8 7, .int .u8 64] 23)⟩, ?_⟩⟩
    refine R_only 4 rfl rfl (by kernel_rfl) (opx_call0 (one_0_7) rfl rfl rfl) (fun _ _ => ⟨_, Take.eq (A := cel b1 [.int .u8 2, .int .u8 0, .int .u8 0, .int .u8 0, .int .u8 7, .int .u8 64] 23)⟩) (.inr fun _ _ => ⟨_, Take.eq (A := cel b1 [.int .u8 2, .int .u8 0, .int .u8 0, .int .u8 0, .int .u8 7, .int .u8 64] 23)⟩) (fun _ _ => ?_)
    refine Rg_emp ?_
    refine R_pure 10 rfl (by kernel_rfl) (by kernel_rfl) (by kernel_rfl) (by kernel_rfl) (.inr ⟨_, Take.eq (A := cel b1 [.int .u8 2, .int .u8 0, .int .u8 0, .int .u8 0, .int .u8 7, .int .u8 64] 23)⟩) (opv_build rfl) rfl ?_
    refine R_only 12 rfl rfl (by kernel_rfl) (opx_store rfl rfl rfl (by simp [Value.oneCell'])) (fun _ _ => ⟨_, Take.eq (A := cel b1 [.int .u8 2, .int .u8 0, .int .u8 0, .int .u8 0, .int .u8 7, .int .u8 64] 23)⟩) (.inr fun _ _ => ⟨_, Take.eq (A := cel b1 [.int .u8 2, .int .u8 0, .int .u8 0, .int .u8 0, .int .u8 7, .int .u8 64] 23)⟩) (fun _ _ => ?_)
    refine R_done (by kernel_rfl) ?_
    refine K_then ?_
    refine J_seq ?_
    refine J_seq ?_
    refine J_region ?_
    refine L_v (opv_loadS rfl) rfl ?_
    refine L_x rfl (opx_call0 (Source_71) rfl rfl rfl) (fun _ _ => ?_)
    refine L_emp ?_
    refine L_v (opv_move rfl) rfl ?_
    refine L_v (opv_extract (v := .agg [.int .u8 2, .int .u8 0, .int .u8 0, .int .u8 0, .int .u8 7, .int .u8 64].toArray) rfl rfl) rfl ?_
    refine L_v (opv_extract rfl rfl) rfl ?_
    refine L_x rfl (opx_alloc rfl) (fun b5 _ => ?_)
    refine L_x rfl (opx_store rfl rfl rfl (by simp [Value.oneCell'])) (fun _ _ => ?_)
    refine L_v (opv_assign rfl) rfl ?_
    refine L_nil ?_
    refine K_then ?_
    refine J_seq ?_
    refine J_region ?_
    refine L_v (opv_move rfl) rfl ?_
    refine L_v ((opv_neq rfl rfl).bool_f (by decide)) rfl ?_
    refine L_v (opv_move rfl) rfl ?_
    refine L_gon rfl rfl rfl ?_
    refine L_v (opv_loadS rfl) rfl ?_
    refine L_gon rfl rfl rfl ?_
    refine L_v (opv_loadS rfl) rfl ?_
    refine L_gon rfl rfl rfl ?_
    refine L_v ((opv_neqF rfl rfl (by simp [Shape, CK.sh]) (by simp [Shape, CK.sh])).bool_f (fun n => n rfl)) rfl ?_
    first
      | refine L_v (opv_pick_tt rfl rfl) rfl ?_
      | refine L_v (opv_pick_ff rfl rfl) rfl ?_
      | refine L_v (opv_pick rfl rfl rfl) rfl ?_
    refine L_nil ?_
    refine K_then ?_
    refine J_cond_false rfl ?_
    refine J_skip ?_
    refine K_then ?_
    refine J_seq ?_
    refine J_region ?_
    refine L_v (opv_loadS rfl) rfl ?_
    refine L_x rfl (opx_store rfl rfl rfl (by simp [Value.oneCell'])) (fun _ _ => ?_)
    refine L_v (opv_assign rfl) rfl ?_
    refine L_nil ?_
    refine K_then ?_
    refine J_ret ?_
    exact K_ret2c rfl rfl rfl rfl () trivial rfl Ent.take

theorem Whose_w  : FSpec Tryd.prog 26 #[.agg [.int .u8 10, .int .u8 0, .int .u8 7, .int .u8 2].toArray] (emp) (fun _ : Unit => True) (fun _ => .tuple #[.int .i64 7, .int .i64 2, .int .i64 0, .int .i64 0]) (fun _ => emp) := by
  refine FSpec.enter' Tryd.func26 rfl Tryd.ntmps26 rfl fun σ F => ?_
  refine J_emp ?_
  refine J_seq ?_
  refine J_region ?_
  refine L_x rfl (opx_box (l := [.int .u8 10, .int .u8 0, .int .u8 7, .int .u8 2]) rfl rfl) (fun b1 _ => ?_)
  refine L_v (opv_assign rfl) rfl ?_
  refine L_v (opv_assign rfl) rfl ?_
  refine L_v (opv_assign rfl) rfl ?_
  refine L_v (opv_assign rfl) rfl ?_
  refine L_nil ?_
  refine K_then ?_
  refine J_seq ?_
  refine J_quiet Tryd.mixed (by kernel_rfl) ?_
  first
    | refine Q_v (opv_indexAddr rfl rfl (by omega)) rfl ?_
    | refine Q_v (opv_indexAddrA rfl rfl (by omega)) rfl ?_
  refine Q_v (opv_load rfl (Rd.look rfl)) rfl ?_
  first
    | refine Q_v (opv_indexAddr rfl rfl (by omega)) rfl ?_
    | refine Q_v (opv_indexAddrA rfl rfl (by omega)) rfl ?_
  refine Q_v (opv_load rfl (Rd.look rfl)) rfl ?_
  refine Q_call (one_0_7) rfl rfl (fun _ _ => rfl) (fun _ _ => Ent.refl _) rfl ?_
  first
    | refine Q_v (opv_indexAddr rfl rfl (by omega)) rfl ?_
    | refine Q_v (opv_indexAddrA rfl rfl (by omega)) rfl ?_
  refine Q_v (opv_load rfl (Rd.look rfl)) rfl ?_
  refine Q_v ((opv_convert rfl).as (v' := .int .i64 2) (congrArg (Value.int .i64) (by decide))) rfl ?_
  first
    | refine Q_v (opv_indexAddr rfl rfl (by omega)) rfl ?_
    | refine Q_v (opv_indexAddrA rfl rfl (by omega)) rfl ?_
  refine Q_v (opv_load rfl (Rd.look rfl)) rfl ?_
  first
    | refine Q_v (opv_indexAddr rfl rfl (by omega)) rfl ?_
    | refine Q_v (opv_indexAddrA rfl rfl (by omega)) rfl ?_
  refine Q_v (opv_load rfl (Rd.look rfl)) rfl ?_
  refine Q_call (one_7_2) rfl rfl (fun _ _ => rfl) (fun _ _ => Ent.refl _) rfl ?_
  refine Q_v (opv_assign rfl) rfl ?_
  refine Q_v (opv_assign rfl) rfl ?_
  refine Q_v (opv_assign rfl) rfl ?_
  refine QL_nil ?_
  refine K_then ?_
  refine J_seq ?_
  refine J_seq ?_
  refine J_region ?_
  refine L_v (opv_move rfl) rfl ?_
  refine L_v (opv_move rfl) rfl ?_
  refine L_x rfl (opx_call0 (Part_72) rfl rfl rfl) (fun _ _ => ?_)
  refine L_emp ?_
  refine L_v (opv_move rfl) rfl ?_
  refine L_v (opv_extract (v := .agg [.int .u8 10, .int .u8 0, .int .u8 7, .int .u8 2].toArray) rfl rfl) rfl ?_
  refine L_v (opv_extract rfl rfl) rfl ?_
  refine L_x rfl (opx_alloc rfl) (fun b6 _ => ?_)
  refine L_x rfl (opx_store rfl rfl rfl (by simp [Value.oneCell'])) (fun _ _ => ?_)
  refine L_v (opv_assign rfl) rfl ?_
  refine L_nil ?_
  refine K_then ?_
  refine J_seq ?_
  refine J_region ?_
  refine L_v (opv_move rfl) rfl ?_
  refine L_v ((opv_eql rfl rfl).bool_t rfl) rfl ?_
  refine L_v (opv_move rfl) rfl ?_
  refine L_gon rfl rfl rfl ?_
  refine L_v (opv_loadS rfl) rfl ?_
  refine L_gon rfl rfl rfl ?_
  refine L_v (opv_loadS rfl) rfl ?_
  refine L_gon rfl rfl rfl ?_
  refine L_v ((opv_eqlF rfl rfl (by simp [Shape, CK.sh]) (by simp [Shape, CK.sh])).bool_t rfl) rfl ?_
  first
    | refine L_v (opv_pick_tt rfl rfl) rfl ?_
    | refine L_v (opv_pick_ff rfl rfl) rfl ?_
    | refine L_v (opv_pick rfl rfl rfl) rfl ?_
  refine L_nil ?_
  refine K_then ?_
  refine J_cond_true rfl ?_
  refine J_seq ?_
  refine J_region ?_
  refine L_v (opv_move rfl) rfl ?_
  refine L_v (opv_move rfl) rfl ?_
  refine L_v (opv_assign rfl) rfl ?_
  refine L_v (opv_assign rfl) rfl ?_
  refine L_v (opv_assign rfl) rfl ?_
  refine L_v (opv_assign rfl) rfl ?_
  refine L_nil ?_
  refine K_then ?_
  refine J_ret ?_
  refine K_then_ret ?_
  exact K_ret4 rfl rfl rfl rfl rfl () trivial rfl Ent.take

end Go.Proofs.YtkkoepnljofhpaaDoor
