/- Contracts of strconv.FormatInt at numbers below 16 and the base 16, each proved by a walk over its code; they are used by the texts that import this one. -/
import Derived.Test.YtkkoepnljofhpaaDoorAd
import Derived.Test.YtkkoepnljofhpaaDoorH
namespace Go.Proofs.YtkkoepnljofhpaaDoor
open Go.SLA
set_option maxRecDepth 100000
set_option linter.unusedVariables false
set_option linter.unusedSimpArgs false
attribute [local irreducible] J L K QL Rg FSpec OpV OpX Rd Back

section
variable {prog : Program} {σ : World} {n : Nat} {E : Env} {P : HProp}
theorem opv_sliceAlo {d : Option Tmp} {ty : TypeId} {pos : String} {aft : Array Edge} {g : Option (Nat × Bool)} {x lo : Operand} {t k e m b o : Nat} {kk : IntKind} {a : Int} [Arr prog t k e m] (hx : ev E x = some (.pointer (some (ad b o)))) (hl : ev E lo = some (.int kk a)) (h : 0 ≤ a ∧ a ≤ k) : OpV prog σ n E P ⟨d, .slice t x (some lo) none none, ty, pos, aft, g⟩ (cutV (some (ad b o)) a.toNat k k m) := by
  unfold OpV
  exact fun _ w ha _ => by
    obtain ⟨h1, i, h2, h3⟩ := Arr.spec (prog := prog) t k e m
    simp only [execOp, ha.ev hx, ha.ev hl, Option.map_some, Option.map_none, Instr.sliceAt, Instr.sureAddr, asAddr, Sem.run_bind, run_und' h1, Result.andThen_ok, Instr.sliceBounds, Sem.run_pure, run_bound (prog := prog) (w := w) (k := kk) (m := a) (y := k) ⟨by omega, by omega⟩, run_sizeOf' h2, h3, cutV, Option.map_some, ad_add]
    first | rfl | (split <;> simp_all [ad_add])
end

theorem isPow_16  : FSpec Tryd.prog 100 #[.int .i64 16] (emp) (fun _ : Unit => True) (fun _ => .bool true) (fun _ => emp) := by
  refine FSpec.enter' Tryd.func100 rfl Tryd.ntmps100 rfl fun σ F => ?_
  refine J_seq ?_
  refine J_region ?_
  refine L_v (opv_assign rfl) rfl ?_
  refine L_nil ?_
  refine K_then ?_
  refine J_seq ?_
  refine J_region ?_
  refine L_v (opv_move rfl) rfl ?_
  refine L_v (opv_move rfl) rfl ?_
  first
    | refine L_v (opv_sub64 rfl rfl (by omega)) rfl ?_
    | refine L_v (opv_sub rfl rfl) rfl ?_
  refine L_v ((opv_and rfl rfl).as (v' := .int .i64 0) (congrArg (Value.int .i64) (by decide))) rfl ?_
  refine L_v ((opv_eql rfl rfl).bool_t rfl) rfl ?_
  refine L_v (opv_assign rfl) rfl ?_
  refine L_nil ?_
  refine K_then ?_
  refine J_ret ?_
  exact K_ret1 rfl rfl () trivial (rfl) (Ent.refl _)

theorem tz64_16 (W : World) (hW : W.cell? (ad 7 15) = some (.int .u8 4)) : FSpec Tryd.prog 112 #[.int .u64 16] (old W) (fun _ : Unit => True) (fun _ => .int .i64 4) (fun _ => old W) := by
  refine FSpec.enter' Tryd.func112 rfl Tryd.ntmps112 rfl fun σ F => ?_
  refine J_seq ?_
  refine J_region ?_
  refine L_v (opv_assign rfl) rfl ?_
  refine L_nil ?_
  refine K_then ?_
  refine J_seq ?_
  refine J_seq ?_
  refine J_region ?_
  refine L_v (opv_move rfl) rfl ?_
  refine L_v ((opv_eql rfl rfl).bool_f (by decide)) rfl ?_
  refine L_nil ?_
  refine K_then ?_
  refine J_cond_false rfl ?_
  refine J_skip ?_
  refine K_then ?_
  refine J_seq ?_
  refine J_region ?_
  refine L_v (opv_move rfl) rfl ?_
  refine L_v (opv_move rfl) rfl ?_
  refine L_v ((opv_neg rfl).as (v' := .int .u64 18446744073709551600) (congrArg (Value.int .u64) (by decide))) rfl ?_
  refine L_v ((opv_and rfl rfl).as (v' := .int .u64 16) (congrArg (Value.int .u64) (by decide))) rfl ?_
  refine L_v ((opv_mul rfl rfl).as (v' := .int .u64 4573923408821661840) (congrArg (Value.int .u64) (by decide))) rfl ?_
  refine L_v ((opv_shr rfl rfl (by decide)).as (v' := .int .u64 15) (congrArg (Value.int .u64) (by decide))) rfl ?_
  refine L_v ((opv_indexAddrA (b := 7) (o := 0) rfl rfl (by decide)).as (v' := .pointer (some (ad 7 15))) rfl) rfl ?_
  refine L_v (opv_load rfl (Rd.old hW)) rfl ?_
  refine L_v ((opv_convert rfl).as (v' := .int .i64 4) (congrArg (Value.int .i64) (by decide))) rfl ?_
  refine L_v (opv_assign rfl) rfl ?_
  refine L_nil ?_
  refine K_then ?_
  refine J_ret ?_
  exact K_ret1 rfl rfl () trivial (rfl) Ent.take

theorem tz_16 (W : World) (hW : W.cell? (ad 7 15) = some (.int .u8 4)) : FSpec Tryd.prog 101 #[.int .u64 16] (old W) (fun _ : Unit => True) (fun _ => .int .i64 4) (fun _ => old W) := by
  refine FSpec.enter' Tryd.func101 rfl Tryd.ntmps101 rfl fun σ F => ?_
  refine J_seq ?_
  refine J_region ?_
  refine L_v (opv_assign rfl) rfl ?_
  refine L_nil ?_
  refine K_then ?_
  refine J_seq ?_
  refine J_cond_false rfl ?_
  refine J_skip ?_
  refine K_then ?_
  refine J_seq ?_
  refine J_region ?_
  refine L_v (opv_move rfl) rfl ?_
  refine L_x rfl (opx_call0 (tz64_16 W hW) rfl rfl rfl) (fun _ _ => ?_)
  refine L_v (opv_assign rfl) rfl ?_
  refine L_nil ?_
  refine K_then ?_
  refine J_ret ?_
  exact K_ret1 rfl rfl () trivial (rfl) Ent.take

end Go.Proofs.YtkkoepnljofhpaaDoor
