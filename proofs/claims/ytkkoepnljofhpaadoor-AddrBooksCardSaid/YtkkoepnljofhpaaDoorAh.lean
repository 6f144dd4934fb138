/- Contracts of strings.Builder's Grow, each proved by a walk over its code; they are used by the texts that import this one. -/
import Derived.Test.YtkkoepnljofhpaaDoorAg
import Derived.Test.YtkkoepnljofhpaaDoorH
namespace Go.Proofs.YtkkoepnljofhpaaDoor
open Go.SLA
set_option maxRecDepth 100000
set_option linter.unusedVariables false
set_option linter.unusedSimpArgs false
attribute [local irreducible] J L K QL Rg FSpec OpV OpX Rd Back

section
variable {prog : Program} {σ : World} {n : Nat} {E : Env} {P : HProp}
theorem opv_copy0 {d : Option Tmp} {ty : TypeId} {pos : String} {aft : Array Edge} {g : Option (Nat × Bool)} {x y : Operand} {t t' e c : Nat} {A : Option Addr} [Slc prog t e 1] (hx : ev E x = some (.slice A 0 c)) (hy : ev E y = some (.slice none 0 0)) : OpV prog σ n E P ⟨d, .call ⟨.builtin .copy, #[x, y], #[t, t']⟩, ty, pos, aft, g⟩ (.int .i64 0) := by
  unfold OpV
  exact fun _ w ha _ => by
    obtain ⟨hu, i, hi, hsz⟩ := Slc.spec (prog := prog) t e 1
    have := run_copy_none (P := prog) w t t' ty e A none 0 c 0 0 hu (by rw [hi, Option.map_some, hsz]) rfl
    simp only [execOp, resolve, List.map_toArray, List.map_cons, List.map_nil, ha.ev hx, ha.ev hy, Sem.run_bind, Sem.run_pure, Result.andThen_ok, invoke, builtin, this]
    first | rfl | simp [goInt]
theorem opv_capL {d : Option Tmp} {ty : TypeId} {pos : String} {aft : Array Edge} {g : Option (Nat × Bool)} {x : Operand} {t e m len cap : Nat} {A : Option Addr} [Slc prog t e m] (hx : ev E x = some (.slice A len cap)) : OpV prog σ n E P ⟨d, .call ⟨.builtin .cap, #[x], #[t]⟩, ty, pos, aft, g⟩ (.int .i64 cap) := by
  unfold OpV
  exact fun _ w ha _ => by
    obtain ⟨h1, i, h2, h3⟩ := Slc.spec (prog := prog) t e m
    simp only [execOp, resolve, List.map_toArray, List.map_cons, List.map_nil, ha.ev hx, Sem.run_bind, Sem.run_pure, Result.andThen_ok, invoke, builtin, Builtin.cap_]
    simp [run_und' h1, goInt]
end

theorem grow_spec (b k : Nat) (hk : k ≤ 1000000) (q : Option Addr) : FSpec Tryd.prog 85 #[.pointer (some (ad b 0)), .int .i64 (k : Nat)] (cel b [.pointer q, .slice none 0 0] 111) (fun u : Option Addr × Nat => True) (fun u => .tuple #[]) (fun u => (sep (cel b [.pointer q, .slice u.1 (ByteArray.empty).size u.2] 111) (OwnZ 5 u ByteArray.empty))) := by
  refine FSpec.enter' Tryd.func85 rfl Tryd.ntmps85 rfl fun σ F => ?_
  refine J_seq ?_
  refine J_steps (cel b [.pointer q, .slice none 0 0] 111) (cel b [.pointer q, .slice none 0 0] 111) [] Tryd.mixed ?_
  refine R_pure 0 rfl (by kernel_rfl) (by kernel_rfl) (by kernel_rfl) (by kernel_rfl) (.inr ⟨_, Take.eq (A := cel b [.pointer q, .slice none 0 0] 111)⟩) (opv_move rfl) rfl ?_
  refine R_pure 1 rfl (by kernel_rfl) (by kernel_rfl) (by kernel_rfl) (by kernel_rfl) (.inr ⟨_, Take.eq (A := cel b [.pointer q, .slice none 0 0] 111)⟩) (opv_nilCheck rfl) rfl ?_
  first
    | refine R_pure 2 rfl (by kernel_rfl) (by kernel_rfl) (by kernel_rfl) (by kernel_rfl) (.inr ⟨_, Take.eq (A := cel b [.pointer q, .slice none 0 0] 111)⟩) (opv_fieldAddr0 rfl) rfl ?_
    | refine R_pure 2 rfl (by kernel_rfl) (by kernel_rfl) (by kernel_rfl) (by kernel_rfl) (.inr ⟨_, Take.eq (A := cel b [.pointer q, .slice none 0 0] 111)⟩) (opv_fieldAddr rfl) rfl ?_
  refine R_take 3 rfl (by kernel_rfl) (by kernel_rfl) (by kernel_rfl) (by kernel_rfl) (by kernel_rfl) (opv_load rfl (Rd.look rfl)) rfl ?_
  refine R_pure 4 rfl (by kernel_rfl) (by kernel_rfl) (by kernel_rfl) (by kernel_rfl) (.inr ⟨_, Take.eq (A := cel b [.pointer q, .slice none 0 0] 111)⟩) (opv_capL rfl) rfl ?_
  first
    | refine R_pure 5 rfl (by kernel_rfl) (by kernel_rfl) (by kernel_rfl) (by kernel_rfl) (.inr ⟨_, Take.eq (A := cel b [.pointer q, .slice none 0 0] 111)⟩) (opv_mul64 rfl rfl (by omega)) rfl ?_
    | refine R_pure 5 rfl (by kernel_rfl) (by kernel_rfl) (by kernel_rfl) (by kernel_rfl) (.inr ⟨_, Take.eq (A := cel b [.pointer q, .slice none 0 0] 111)⟩) (opv_mul rfl rfl) rfl ?_
  refine R_pure 6 rfl (by kernel_rfl) (by kernel_rfl) (by kernel_rfl) (by kernel_rfl) (.inr ⟨_, Take.eq (A := cel b [.pointer q, .slice none 0 0] 111)⟩) (opv_move rfl) rfl ?_
  refine R_pure 7 rfl (by kernel_rfl) (by kernel_rfl) (by kernel_rfl) (by kernel_rfl) (.inr ⟨_, Take.eq (A := cel b [.pointer q, .slice none 0 0] 111)⟩) ((opv_add64 rfl rfl (by omega)).as (v' := .int .i64 (k : Nat)) (congrArg (Value.int .i64) (by omega))) rfl ?_
  refine R_pure 9 rfl (by kernel_rfl) (by kernel_rfl) (by kernel_rfl) (by kernel_rfl) (.inr ⟨_, Take.eq (A := cel b [.pointer q, .slice none 0 0] 111)⟩) (opv_move rfl) rfl ?_
  refine R_pure 10 rfl (by kernel_rfl) (by kernel_rfl) (by kernel_rfl) (by kernel_rfl) (.inr ⟨_, Take.eq (A := cel b [.pointer q, .slice none 0 0] 111)⟩) (opv_nilCheck rfl) rfl ?_
  first
    | refine R_pure 11 rfl (by kernel_rfl) (by kernel_rfl) (by kernel_rfl) (by kernel_rfl) (.inr ⟨_, Take.eq (A := cel b [.pointer q, .slice none 0 0] 111)⟩) (opv_fieldAddr0 rfl) rfl ?_
    | refine R_pure 11 rfl (by kernel_rfl) (by kernel_rfl) (by kernel_rfl) (by kernel_rfl) (.inr ⟨_, Take.eq (A := cel b [.pointer q, .slice none 0 0] 111)⟩) (opv_fieldAddr rfl) rfl ?_
  refine R_take 12 rfl (by kernel_rfl) (by kernel_rfl) (by kernel_rfl) (by kernel_rfl) (by kernel_rfl) (opv_load rfl (Rd.look rfl)) rfl ?_
  first
    | refine R_pure 13 rfl (by kernel_rfl) (by kernel_rfl) (by kernel_rfl) (by kernel_rfl) (.inr ⟨_, Take.eq (A := cel b [.pointer q, .slice none 0 0] 111)⟩) (opv_lenL rfl) rfl ?_
    | refine R_pure 13 rfl (by kernel_rfl) (by kernel_rfl) (by kernel_rfl) (by kernel_rfl) (.inr ⟨_, Take.eq (A := cel b [.pointer q, .slice none 0 0] 111)⟩) (opv_lenS rfl) rfl ?_
  refine R_only 8 rfl rfl (by kernel_rfl) (opx_makeNoZero (k := k) (t := 89) (e := 5) rfl (by omega) rfl) (fun _ _ => ⟨_, Take.eq (A := cel b [.pointer q, .slice none 0 0] 111)⟩) (.inr fun _ _ => ⟨_, Take.eq (A := cel b [.pointer q, .slice none 0 0] 111)⟩) (fun m hm => ?_)
  refine R_pure 14 rfl (by kernel_rfl) (by kernel_rfl) (by kernel_rfl) (by kernel_rfl) (.inr ⟨_, Take.eq (A := cel b [.pointer q, .slice none 0 0] 111)⟩) ((opv_sliceLhi rfl rfl (by omega)).as (v' := .slice (some (ad m.1 0)) 0 m.2.length) (by rw [cutV_at]; simp)) rfl ?_
  refine R_pure 15 rfl (by kernel_rfl) (by kernel_rfl) (by kernel_rfl) (by kernel_rfl) (.inr ⟨_, Take.eq (A := cel b [.pointer q, .slice none 0 0] 111)⟩) (opv_assign rfl) rfl ?_
  refine R_done (by kernel_rfl) ?_
  refine K_then ?_
  refine J_seq ?_
  refine J_region ?_
  refine L_v (opv_move rfl) rfl ?_
  refine L_v (opv_move rfl) rfl ?_
  refine L_v (opv_nilCheck rfl) rfl ?_
  first
    | refine L_v (opv_fieldAddr0 rfl) rfl ?_
    | refine L_v (opv_fieldAddr rfl) rfl ?_
  refine L_v (opv_load rfl (Rd.look rfl)) rfl ?_
  refine L_v (opv_copy0 rfl rfl) rfl ?_
  refine L_nil ?_
  refine K_then ?_
  refine J_region ?_
  refine L_v (opv_move rfl) rfl ?_
  refine L_v (opv_move rfl) rfl ?_
  refine L_v (opv_nilCheck rfl) rfl ?_
  first
    | refine L_v (opv_fieldAddr0 rfl) rfl ?_
    | refine L_v (opv_fieldAddr rfl) rfl ?_
  refine L_x rfl (opx_store rfl rfl rfl (by simp [Value.oneCell'])) (fun _ _ => ?_)
  refine L_nil ?_
  exact K_end0 rfl (some (ad m.1 0), m.2.length) trivial rfl (Ent.trans (Ent.take (Q := (sep (cel m.1 m.2 5) (sep (cel b [.pointer q, .slice (some (ad m.1 0)) 0 m.2.length] 111) (F))))) (Ent.trans (Ent.frame (OwnZ.mk (e := 5) (s := ByteArray.empty) (Nat.zero_le _) hm.2 (Nat.le_refl _)) _) (Ent.of (by rw [sep_assoc]; exact sep_left_comm _ _ _))))

theorem Grow_spec (b k : Nat) (hk : 1 ≤ k ∧ k ≤ 1000000) : FSpec Tryd.prog 58 #[.pointer (some (ad b 0)), .int .i64 (k : Nat)] (cel b [.pointer none, .slice none 0 0] 111) (fun u : Option Addr × Nat => True) (fun u => .tuple #[]) (fun u => (sep (cel b [.pointer (some (ad b 0)), .slice u.1 (ByteArray.empty).size u.2] 111) (OwnZ 5 u ByteArray.empty))) := by
  refine FSpec.enter' Tryd.func58 rfl Tryd.ntmps58 rfl fun σ F => ?_
  refine J_seq ?_
  refine J_region ?_
  refine L_v (opv_move rfl) rfl ?_
  refine L_x rfl (opx_call0 (cc_any b none (.slice none 0 0) (.inl rfl)) rfl rfl rfl) (fun _ _ => ?_)
  refine L_nil ?_
  refine K_then ?_
  refine J_seq ?_
  refine J_seq ?_
  refine J_region ?_
  refine L_v (opv_move rfl) rfl ?_
  refine L_v ((opv_lss rfl rfl).bool_f (by omega)) rfl ?_
  refine L_nil ?_
  refine K_then ?_
  refine J_cond_false rfl ?_
  refine J_skip ?_
  refine K_then ?_
  refine J_seq ?_
  refine J_quiet Tryd.mixed (by kernel_rfl) ?_
  refine Q_v (opv_move rfl) rfl ?_
  refine Q_v (opv_nilCheck rfl) rfl ?_
  first
    | refine Q_v (opv_fieldAddr0 rfl) rfl ?_
    | refine Q_v (opv_fieldAddr rfl) rfl ?_
  refine Q_v (opv_load rfl (Rd.look rfl)) rfl ?_
  refine Q_v (opv_capL rfl) rfl ?_
  refine Q_v (opv_move rfl) rfl ?_
  refine Q_v (opv_nilCheck rfl) rfl ?_
  first
    | refine Q_v (opv_fieldAddr0 rfl) rfl ?_
    | refine Q_v (opv_fieldAddr rfl) rfl ?_
  refine Q_v (opv_load rfl (Rd.look rfl)) rfl ?_
  first
    | refine Q_v (opv_lenL rfl) rfl ?_
    | refine Q_v (opv_lenS rfl) rfl ?_
  refine Q_v ((opv_sub64 rfl rfl (by decide)).as (v' := .int .i64 0) rfl) rfl ?_
  refine Q_v (opv_move rfl) rfl ?_
  refine Q_v ((opv_lss rfl rfl).bool_t (by omega)) rfl ?_
  refine QL_nil ?_
  refine K_then ?_
  refine J_cond_true rfl ?_
  refine J_region ?_
  refine L_v (opv_move rfl) rfl ?_
  refine L_v (opv_move rfl) rfl ?_
  refine L_x rfl (opx_call0 (grow_spec b k hk.2 (some (ad b 0))) rfl rfl rfl) (fun u _ => ?_)
  refine L_nil ?_
  exact K_end0 rfl u trivial rfl Ent.take

end Go.Proofs.YtkkoepnljofhpaaDoor
