/- Contracts of functions of the translation, each proved by a walk over its code; they are used by the texts that import this one. -/
import Derived.Test.YtpnpdliimidoaaaMh
import Derived.Test.YtpnpdliimidoaaaH
namespace Go.Proofs.Ytpnpdliimidoaaa
open Go.SLA
set_option maxRecDepth 100000
set_option linter.unusedVariables false
set_option linter.unusedSimpArgs false
attribute [local irreducible] J L K QL Rg FSpec OpV OpX Rd Back
theorem RTicks_spec (a : Int) (h : 0 ≤ a ∧ a ≤ 9000000000000000000) : FSpec Try.prog 26 #[.int .i64 a] (emp) (fun _ : Unit => True) (fun _ => .int .i64 (a + 20)) (fun _ => emp) := by
  refine FSpec.enter' Try.func26 rfl Try.ntmps26 rfl fun σ F => ?_
  refine J_seq ?_
  refine J_region ?_
  refine L_v (opv_assign rfl) rfl ?_
  refine L_nil ?_
  refine K_then ?_
  refine J_seq ?_
  refine J_region ?_
  refine L_v (opv_move rfl) rfl ?_
  first
    | refine L_v (opv_add64 rfl rfl (by omega)) rfl ?_
    | refine L_v (opv_addS rfl rfl (by omega)) rfl ?_
    | refine L_v (opv_add rfl rfl) rfl ?_
  refine L_v (opv_assign rfl) rfl ?_
  refine L_nil ?_
  refine K_then ?_
  refine J_ret ?_
  exact K_ret1 rfl rfl () trivial (rfl) (Ent.refl _)

theorem Rtime_spec (r : Nat) (v : Value) (cur free t : Int) : FSpec Try.prog 44 #[.pointer (some (ad r 0)), .int .i64 t] (cel r [v, .int .i64 cur, .int .i64 free] 45) (fun _ : Unit => True) (fun _ => .int .i64 (tim cur t)) (fun _ => cel r [v, .int .i64 cur, .int .i64 free] 45) := by
  refine FSpec.enter' Try.func44 rfl Try.ntmps44 rfl fun σ F => ?_
  refine J_seq ?_
  refine J_region ?_
  refine L_v (opv_assign rfl) rfl ?_
  refine L_nil ?_
  refine K_then ?_
  refine J_seq ?_
  refine J_seq ?_
  refine J_region ?_
  refine L_v (opv_move rfl) rfl ?_
  refine L_v (opv_lss rfl rfl) rfl ?_
  refine L_v (opv_move rfl) rfl ?_
  refine L_gf rfl rfl (fun h1 => ?_) (fun h1 => ?_) (fun _ h => by cases h; rfl)
  · refine L_v (opv_move rfl) rfl ?_
    refine L_gf_on h1 rfl rfl ?_
    refine L_v (opv_gtr rfl rfl) rfl ?_
    refine L_v (opv_pick_f rfl h1 rfl) rfl ?_
    refine L_nil ?_
    refine K_then ?_
    refine J_cond rfl (fun h2 => ?_) (fun h2 => ?_)
    · refine J_seq ?_
      refine J_region ?_
      refine L_v (opv_assign rfl) rfl ?_
      refine L_nil ?_
      refine K_then ?_
      refine J_ret ?_
      refine K_then_ret ?_
      exact K_ret1 rfl rfl () trivial (rv (by first | exact (tim_a (by omega)).symm | exact (tim_b (by omega) (by omega) (by omega)).symm | exact (tim_c (by omega) (by omega) (by omega)).symm)) (Ent.refl _)
    · refine J_skip ?_
      refine K_then ?_
      refine J_seq ?_
      refine J_seq ?_
      refine J_region ?_
      refine L_v (opv_move rfl) rfl ?_
      refine L_v (opv_move rfl) rfl ?_
      refine L_v (opv_nilCheck rfl) rfl ?_
      first
        | refine L_v (opv_fieldAddr0 rfl) rfl ?_
        | refine L_v (opv_fieldAddr rfl) rfl ?_
      refine L_v (opv_load rfl (Rd.look rfl)) rfl ?_
      refine L_v (opv_lss rfl rfl) rfl ?_
      refine L_nil ?_
      refine K_then ?_
      refine J_cond rfl (fun h3 => ?_) (fun h3 => ?_)
      · refine J_seq ?_
        refine J_region ?_
        refine L_v (opv_assign rfl) rfl ?_
        refine L_nil ?_
        refine K_then ?_
        refine J_ret ?_
        refine K_then_ret ?_
        exact K_ret1 rfl rfl () trivial (rv (by first | exact (tim_a (by omega)).symm | exact (tim_b (by omega) (by omega) (by omega)).symm | exact (tim_c (by omega) (by omega) (by omega)).symm)) (Ent.refl _)
      · refine J_skip ?_
        refine K_then ?_
        refine J_seq ?_
        refine J_region ?_
        refine L_v (opv_assign rfl) rfl ?_
        refine L_nil ?_
        refine K_then ?_
        refine J_ret ?_
        exact K_ret1 rfl rfl () trivial (rv (by first | exact (tim_a (by omega)).symm | exact (tim_b (by omega) (by omega) (by omega)).symm | exact (tim_c (by omega) (by omega) (by omega)).symm)) (Ent.refl _)
  · refine L_gf_off h1 rfl rfl ?_ (fun _ h => by cases h; rfl)
    refine L_v (opv_pick_t rfl h1 rfl) rfl ?_
    refine L_nil ?_
    refine K_then ?_
    refine J_cond_true rfl ?_
    refine J_seq ?_
    refine J_region ?_
    refine L_v (opv_assign rfl) rfl ?_
    refine L_nil ?_
    refine K_then ?_
    refine J_ret ?_
    refine K_then_ret ?_
    exact K_ret1 rfl rfl () trivial (rv (by first | exact (tim_a (by omega)).symm | exact (tim_b (by omega) (by omega) (by omega)).symm | exact (tim_c (by omega) (by omega) (by omega)).symm)) (Ent.refl _)


/-- The plain line at r: what waits, its tick, when it is free. -/
def RLineP (r : Nat) (q : List Sn) (cur free : Int) : HProp := ex fun x : Option Addr × Nat => (sep (cel r [.slice x.1 q.length x.2, .int .i64 cur, .int .i64 free] 45) (Own 48 4 (.slice x.1 q.length x.2) q.length (flat q)))
theorem RLineP.fold {r : Nat} {q : List Sn} {cur free : Int} {F : HProp} (A : Option Addr) (c : Nat) : Ent (sep (cel r [.slice A q.length c, .int .i64 cur, .int .i64 free] 45) (sep (Own 48 4 (.slice A q.length c) q.length (flat q)) (F))) (sep (RLineP r q cur free) (F)) := by
  rw [← sep_assoc]
  exact Ent.ex (f := fun x : Option Addr × Nat => (sep (cel r [.slice x.1 q.length x.2, .int .i64 cur, .int .i64 free] 45) (Own 48 4 (.slice x.1 q.length x.2) q.length (flat q)))) (A, c)

theorem ROffer_spec (r : Nat) (q : List Sn) (cur free now id : Int) (text : ByteArray) (hf : 0 ≤ free ∧ free ≤ 2000000000000000000) (hn : -9223372036854775808 ≤ now ∧ now ≤ 2000000000000000000) (hs0 : (text.size : Int) ≤ 2000000000000000000) : FSpec Try.prog 23 #[.pointer (some (ad r 0)), .int .i64 now, .int .i64 id, .string text] (RLineP r q cur free) (fun _ : Unit => True) (fun _ => .int .i64 (offer q cur free now id text).1) (fun _ => RLineP r (offer q cur free now id text).2.1 (offer q cur free now id text).2.2.1 (offer q cur free now id text).2.2.2) := by
  have hm : -9223372036854775808 ≤ (if free > now then free else now) ∧ (if free > now then free else now) ≤ 2000000000000000000 := by split <;> omega
  refine FSpec.enter' Try.func23 rfl Try.ntmps23 rfl fun σ F => ?_
  refine J_ex fun x => ?_
  refine J_eq _ (sep_assoc _ _ _) ?_
  refine J_seq ?_
  refine J_region ?_
  refine L_v (opv_assign rfl) rfl ?_
  refine L_nil ?_
  refine K_then ?_
  refine J_seq ?_
  refine J_region ?_
  refine L_v (opv_move rfl) rfl ?_
  refine L_v (opv_move rfl) rfl ?_
  refine L_x rfl (opx_call0 (Rtime_spec r (.slice x.1 q.length x.2) cur free now) rfl rfl rfl) (fun _ _ => ?_)
  refine L_v (opv_assign rfl) rfl ?_
  refine L_nil ?_
  refine K_then ?_
  refine J_seq ?_
  refine J_seq ?_
  refine J_region ?_
  refine L_v (opv_move rfl) rfl ?_
  first
    | refine L_v (opv_neq rfl rfl) rfl ?_
    | refine L_v (opv_neqS rfl rfl) rfl ?_
    | refine L_v (opv_neqNil rfl rfl) rfl ?_
    | refine L_v (opv_neqB rfl rfl) rfl ?_
  refine L_nil ?_
  refine K_then ?_
  refine J_cond rfl (fun h1 => ?_) (fun h1 => ?_)
  · refine J_seq ?_
    refine J_region ?_
    refine L_v (opv_move rfl) rfl ?_
    refine L_v (opv_assign rfl) rfl ?_
    refine L_nil ?_
    refine K_then ?_
    refine J_ret ?_
    refine K_then_ret ?_
    rw [offer_a h1]
    exact K_ret1 rfl rfl () trivial rfl (RLineP.fold x.1 x.2)
  · refine J_skip ?_
    refine K_then ?_
    refine J_seq ?_
    refine J_seq ?_
    refine J_region ?_
    refine L_v (opv_move rfl) rfl ?_
    first
      | refine L_v (opv_lenL rfl) rfl ?_
      | refine L_v (opv_lenS rfl) rfl ?_
    refine L_v (opv_gtr rfl rfl) rfl ?_
    refine L_nil ?_
    refine K_then ?_
    refine J_cond rfl (fun h2 => ?_) (fun h2 => ?_)
    · refine J_seq ?_
      refine J_region ?_
      refine L_v (opv_assign rfl) rfl ?_
      refine L_nil ?_
      refine K_then ?_
      refine J_ret ?_
      refine K_then_ret ?_
      rw [offer_b h1 h2]
      exact K_ret1 rfl rfl () trivial rfl (RLineP.fold x.1 x.2)
    · refine J_skip ?_
      refine K_then ?_
      refine J_seq ?_
      refine J_seq ?_
      refine J_region ?_
      refine L_v (opv_move rfl) rfl ?_
      refine L_v (opv_nilCheck rfl) rfl ?_
      first
        | refine L_v (opv_fieldAddr0 rfl) rfl ?_
        | refine L_v (opv_fieldAddr rfl) rfl ?_
      refine L_v (opv_load rfl (Rd.look rfl)) rfl ?_
      first
        | refine L_v (opv_lenL rfl) rfl ?_
        | refine L_v (opv_lenS rfl) rfl ?_
      refine L_v (opv_geq rfl rfl) rfl ?_
      refine L_nil ?_
      refine K_then ?_
      refine J_cond rfl (fun h3 => ?_) (fun h3 => ?_)
      · refine J_seq ?_
        refine J_region ?_
        refine L_v (opv_assign rfl) rfl ?_
        refine L_nil ?_
        refine K_then ?_
        refine J_ret ?_
        refine K_then_ret ?_
        rw [offer_c h1 h2 h3]
        exact K_ret1 rfl rfl () trivial rfl (RLineP.fold x.1 x.2)
      · refine J_skip ?_
        refine K_then ?_
        refine J_seq ?_
        refine J_region ?_
        refine L_v (opv_move rfl) rfl ?_
        refine L_v (opv_move rfl) rfl ?_
        refine L_v (opv_nilCheck rfl) rfl ?_
        first
          | refine L_v (opv_fieldAddr0 rfl) rfl ?_
          | refine L_v (opv_fieldAddr rfl) rfl ?_
        refine L_x rfl (opx_store rfl rfl rfl (by simp [Value.oneCell'])) (fun _ _ => ?_)
        refine L_nil ?_
        refine K_then ?_
        refine J_seq ?_
        refine J_region ?_
        refine L_v (opv_move rfl) rfl ?_
        refine L_v (opv_move rfl) rfl ?_
        refine L_v (opv_nilCheck rfl) rfl ?_
        first
          | refine L_v (opv_fieldAddr0 rfl) rfl ?_
          | refine L_v (opv_fieldAddr rfl) rfl ?_
        refine L_v (opv_load rfl (Rd.look rfl)) rfl ?_
        refine L_v (opv_max rfl rfl) rfl ?_
        refine L_v (opv_assign rfl) rfl ?_
        refine L_nil ?_
        refine K_then ?_
        refine J_seq ?_
        refine J_region ?_
        refine L_v (opv_move rfl) rfl ?_
        refine L_v (opv_move rfl) rfl ?_
        refine L_v (opv_move rfl) rfl ?_
        first
          | refine L_v (opv_lenL rfl) rfl ?_
          | refine L_v (opv_lenS rfl) rfl ?_
        refine L_x rfl (opx_call0 (RTicks_spec (text.size : Int) (by omega)) rfl rfl rfl) (fun _ _ => ?_)
        refine L_emp ?_
        first
          | refine L_v (opv_add64 rfl rfl (by omega)) rfl ?_
          | refine L_v (opv_addS rfl rfl (by omega)) rfl ?_
          | refine L_v (opv_add rfl rfl) rfl ?_
        refine L_v (opv_nilCheck rfl) rfl ?_
        first
          | refine L_v (opv_fieldAddr0 rfl) rfl ?_
          | refine L_v (opv_fieldAddr rfl) rfl ?_
        refine L_x rfl (opx_store rfl rfl rfl (by simp [Value.oneCell'])) (fun _ _ => ?_)
        refine L_nil ?_
        refine K_then ?_
        refine J_seq ?_
        refine J_steps (emp) (cel r [.slice x.1 q.length x.2, .int .i64 now, .int .i64 ((if free > now then free else now) + ((text.size : Int) + 20))] 45) [17] Try.mixed ?_
        refine R_pure 0 rfl (by kernel_rfl) (by kernel_rfl) (by kernel_rfl) (by kernel_rfl) (.inr ⟨_, Take.eq (A := cel r [.slice x.1 q.length x.2, .int .i64 now, .int .i64 ((if free > now then free else now) + ((text.size : Int) + 20))] 45)⟩) (opv_move rfl) rfl ?_
        refine R_pure 1 rfl (by kernel_rfl) (by kernel_rfl) (by kernel_rfl) (by kernel_rfl) (.inr ⟨_, Take.eq (A := cel r [.slice x.1 q.length x.2, .int .i64 now, .int .i64 ((if free > now then free else now) + ((text.size : Int) + 20))] 45)⟩) (opv_move rfl) rfl ?_
        refine R_pure 2 rfl (by kernel_rfl) (by kernel_rfl) (by kernel_rfl) (by kernel_rfl) (.inr ⟨_, Take.eq (A := cel r [.slice x.1 q.length x.2, .int .i64 now, .int .i64 ((if free > now then free else now) + ((text.size : Int) + 20))] 45)⟩) (opv_nilCheck rfl) rfl ?_
        first
          | refine R_pure 3 rfl (by kernel_rfl) (by kernel_rfl) (by kernel_rfl) (by kernel_rfl) (.inr ⟨_, Take.eq (A := cel r [.slice x.1 q.length x.2, .int .i64 now, .int .i64 ((if free > now then free else now) + ((text.size : Int) + 20))] 45)⟩) (opv_fieldAddr0 rfl) rfl ?_
          | refine R_pure 3 rfl (by kernel_rfl) (by kernel_rfl) (by kernel_rfl) (by kernel_rfl) (.inr ⟨_, Take.eq (A := cel r [.slice x.1 q.length x.2, .int .i64 now, .int .i64 ((if free > now then free else now) + ((text.size : Int) + 20))] 45)⟩) (opv_fieldAddr rfl) rfl ?_
        refine R_take 4 rfl (by kernel_rfl) (by kernel_rfl) (by kernel_rfl) (by kernel_rfl) (by kernel_rfl) (opv_load rfl (Rd.look rfl)) rfl ?_
        refine R_pure 5 rfl (by kernel_rfl) (by kernel_rfl) (by kernel_rfl) (by kernel_rfl) (.inr ⟨_, Take.eq (A := cel r [.slice x.1 q.length x.2, .int .i64 now, .int .i64 ((if free > now then free else now) + ((text.size : Int) + 20))] 45)⟩) (opv_move rfl) rfl ?_
        refine R_pure 6 rfl (by kernel_rfl) (by kernel_rfl) (by kernel_rfl) (by kernel_rfl) (.inr ⟨_, Take.eq (A := cel r [.slice x.1 q.length x.2, .int .i64 now, .int .i64 ((if free > now then free else now) + ((text.size : Int) + 20))] 45)⟩) (opv_move rfl) rfl ?_
        refine R_pure 7 rfl (by kernel_rfl) (by kernel_rfl) (by kernel_rfl) (by kernel_rfl) (.inr ⟨_, Take.eq (A := cel r [.slice x.1 q.length x.2, .int .i64 now, .int .i64 ((if free > now then free else now) + ((text.size : Int) + 20))] 45)⟩) (opv_move rfl) rfl ?_
        refine R_pure 8 rfl (by kernel_rfl) (by kernel_rfl) (by kernel_rfl) (by kernel_rfl) (.inr ⟨_, Take.eq (A := cel r [.slice x.1 q.length x.2, .int .i64 now, .int .i64 ((if free > now then free else now) + ((text.size : Int) + 20))] 45)⟩) (opv_move rfl) rfl ?_
        refine R_pure 9 rfl (by kernel_rfl) (by kernel_rfl) (by kernel_rfl) (by kernel_rfl) (.inr ⟨_, Take.eq (A := cel r [.slice x.1 q.length x.2, .int .i64 now, .int .i64 ((if free > now then free else now) + ((text.size : Int) + 20))] 45)⟩) (opv_nilCheck rfl) rfl ?_
        first
          | refine R_pure 10 rfl (by kernel_rfl) (by kernel_rfl) (by kernel_rfl) (by kernel_rfl) (.inr ⟨_, Take.eq (A := cel r [.slice x.1 q.length x.2, .int .i64 now, .int .i64 ((if free > now then free else now) + ((text.size : Int) + 20))] 45)⟩) (opv_fieldAddr0 rfl) rfl ?_
          | refine R_pure 10 rfl (by kernel_rfl) (by kernel_rfl) (by kernel_rfl) (by kernel_rfl) (.inr ⟨_, Take.eq (A := cel r [.slice x.1 q.length x.2, .int .i64 now, .int .i64 ((if free > now then free else now) + ((text.size : Int) + 20))] 45)⟩) (opv_fieldAddr rfl) rfl ?_
        refine R_take 11 rfl (by kernel_rfl) (by kernel_rfl) (by kernel_rfl) (by kernel_rfl) (by kernel_rfl) (opv_load rfl (Rd.look rfl)) rfl ?_
        refine R_pure 12 rfl (by kernel_rfl) (by kernel_rfl) (by kernel_rfl) (by kernel_rfl) (.inr ⟨_, Take.eq (A := cel r [.slice x.1 q.length x.2, .int .i64 now, .int .i64 ((if free > now then free else now) + ((text.size : Int) + 20))] 45)⟩) (opv_build rfl) rfl ?_
        refine R_only 13 rfl rfl (by kernel_rfl) (opx_buildSlice1 (m := 4) rfl rfl (by omega) (by omega) rfl) (fun _ _ => ⟨_, Take.eq (A := emp)⟩) (.inr fun _ _ => ⟨_, Take.eq (A := cel r [.slice x.1 q.length x.2, .int .i64 now, .int .i64 ((if free > now then free else now) + ((text.size : Int) + 20))] 45)⟩) (fun b57 _ => ?_)
        refine R_only 14 rfl rfl (by kernel_rfl) (opx_append (m := 4) (B := 40) rfl rfl (Src.lit) rfl (by omega) rfl (by simp [Value.oneCell']) (by unfold maxLen; omega) (by omega) rfl) (fun _ _ => ⟨_, Take.eq (A := emp)⟩) (.inr fun _ _ => ⟨_, Take.eq (A := cel r [.slice x.1 q.length x.2, .int .i64 now, .int .i64 ((if free > now then free else now) + ((text.size : Int) + 20))] 45)⟩) (fun y58 _ => ?_)
        refine R_pure 15 rfl (by kernel_rfl) (by kernel_rfl) (by kernel_rfl) (by kernel_rfl) (.inr ⟨_, Take.eq (A := cel r [.slice x.1 q.length x.2, .int .i64 now, .int .i64 ((if free > now then free else now) + ((text.size : Int) + 20))] 45)⟩) (opv_nilCheck rfl) rfl ?_
        first
          | refine R_pure 16 rfl (by kernel_rfl) (by kernel_rfl) (by kernel_rfl) (by kernel_rfl) (.inr ⟨_, Take.eq (A := cel r [.slice x.1 q.length x.2, .int .i64 now, .int .i64 ((if free > now then free else now) + ((text.size : Int) + 20))] 45)⟩) (opv_fieldAddr0 rfl) rfl ?_
          | refine R_pure 16 rfl (by kernel_rfl) (by kernel_rfl) (by kernel_rfl) (by kernel_rfl) (.inr ⟨_, Take.eq (A := cel r [.slice x.1 q.length x.2, .int .i64 now, .int .i64 ((if free > now then free else now) + ((text.size : Int) + 20))] 45)⟩) (opv_fieldAddr rfl) rfl ?_
        refine R_only 17 rfl rfl (by kernel_rfl) (opx_store rfl rfl rfl (by simp [Value.oneCell'])) (fun _ _ => ⟨_, Take.eq (A := emp)⟩) (.inl (by kernel_rfl)) (fun _ _ => ?_)
        refine R_done (by kernel_rfl) ?_
        refine K_then ?_
        refine J_seq ?_
        refine J_region ?_
        refine L_v (opv_assign rfl) rfl ?_
        refine L_nil ?_
        refine K_then ?_
        refine J_ret ?_
        rw [offer_d h1 h2 h3]
        have hq : flat q ++ [.int .i64 id, .string text, .int .i64 (if free > now then free else now), .int .i64 ((if free > now then free else now) + ((text.size : Int) + 20))] = flat (q ++ [(⟨id, text, (if free > now then free else now), ((if free > now then free else now) + ((text.size : Int) + 20))⟩ : Sn)]) := flat_snoc q (⟨id, text, (if free > now then free else now), ((if free > now then free else now) + ((text.size : Int) + 20))⟩ : Sn)
        rw [hq, show q.length + 1 = (q ++ [(⟨id, text, (if free > now then free else now), ((if free > now then free else now) + ((text.size : Int) + 20))⟩ : Sn)]).length by simp]
        exact K_ret1 (Qo := fun _ => RLineP r (q ++ [(⟨id, text, (if free > now then free else now), ((if free > now then free else now) + ((text.size : Int) + 20))⟩ : Sn)]) now ((if free > now then free else now) + ((text.size : Int) + 20))) rfl rfl () trivial rfl (Ent.trans Ent.take (RLineP.fold y58.1 y58.2))

theorem RPass_err (r : Nat) (q : List Sn) (cur free now : Int) (h : tim cur now ≠ 0) : FSpec Try.prog 22 #[.pointer (some (ad r 0)), .int .i64 now] (RLineP r q cur free) (fun _ : Unit => True) (fun _ => .tuple #[.slice none 0 0, .int .i64 (tim cur now)]) (fun _ => RLineP r q cur free) := by
  refine FSpec.enter' Try.func22 rfl Try.ntmps22 rfl fun σ F => ?_
  refine J_ex fun x => ?_
  refine J_eq _ (sep_assoc _ _ _) ?_
  refine J_seq ?_
  refine J_region ?_
  refine L_v (opv_assign rfl) rfl ?_
  refine L_v (opv_assign rfl) rfl ?_
  refine L_nil ?_
  refine K_then ?_
  refine J_seq ?_
  refine J_region ?_
  refine L_v (opv_move rfl) rfl ?_
  refine L_v (opv_move rfl) rfl ?_
  refine L_x rfl (opx_call0 (Rtime_spec r (.slice x.1 q.length x.2) cur free now) rfl rfl rfl) (fun _ _ => ?_)
  refine L_v (opv_assign rfl) rfl ?_
  refine L_nil ?_
  refine K_then ?_
  refine J_seq ?_
  refine J_seq ?_
  refine J_region ?_
  refine L_v (opv_move rfl) rfl ?_
  first
    | refine L_v (opv_neq rfl rfl) rfl ?_
    | refine L_v (opv_neqS rfl rfl) rfl ?_
    | refine L_v (opv_neqNil rfl rfl) rfl ?_
    | refine L_v (opv_neqB rfl rfl) rfl ?_
  refine L_nil ?_
  refine K_then ?_
  refine J_cond rfl (fun h1 => ?_) (fun h1 => absurd h h1)
  refine J_seq ?_
  refine J_region ?_
  refine L_v (opv_move rfl) rfl ?_
  refine L_v (opv_assign rfl) rfl ?_
  refine L_v (opv_assign rfl) rfl ?_
  refine L_nil ?_
  refine K_then ?_
  refine J_ret ?_
  refine K_then_ret ?_
  exact K_ret2 rfl rfl rfl () trivial rfl (Ent.trans Ent.take (RLineP.fold x.1 x.2))


structure FS where
  k : Nat
  g : Option Addr × Nat
  h : Option Addr × Nat
theorem filter_snoc {q : List Sn} {k : Nat} {x : Sn} (f : Sn → Bool) (hx : q[k]? = some x) : (q.take (k + 1)).filter f = (q.take k).filter f ++ if f x = true then [x] else [] := by
  have hk := get_lt hx
  rw [List.getElem?_eq_getElem hk] at hx
  simp only [Option.some.injEq] at hx
  rw [List.take_succ_eq_append_getElem hk, hx, List.filter_append]
  by_cases h : f x = true <;> simp [h]
theorem enc_one (x : Sn) : ∀ u ∈ enc x, u.oneCell' = true := by
  intro u hu
  simp only [enc, List.mem_cons, List.not_mem_nil, or_false] at hu
  rcases hu with rfl | rfl | rfl | rfl <;> rfl

theorem RPass_ok (r : Nat) (q : List Sn) (cur free now : Int) (h : tim cur now = 0) (hq : q.length ≤ 1000000000) : FSpec Try.prog 22 #[.pointer (some (ad r 0)), .int .i64 now] (RLineP r q cur free) (fun z : Option Addr × Nat => True) (fun z => .tuple #[.slice z.1 (q.filter fun a => decide (a.e ≤ now)).length z.2, .int .i64 0]) (fun z => (sep (Own 48 4 (.slice z.1 (q.filter fun a => decide (a.e ≤ now)).length z.2) (q.filter fun a => decide (a.e ≤ now)).length (flat (q.filter fun a => decide (a.e ≤ now)))) (RLineP r (q.filter fun a => !decide (a.e ≤ now)) now free))) := by
  refine FSpec.enter' Try.func22 rfl Try.ntmps22 rfl fun σ F => ?_
  refine J_ex fun x => ?_
  refine J_eq _ (sep_assoc _ _ _) ?_
  obtain ⟨A, c⟩ := x
  refine J_know (fun w hs => own_nonnil hs.drop) fun hA => ?_
  refine J_seq ?_
  refine J_region ?_
  refine L_v (opv_assign rfl) rfl ?_
  refine L_v (opv_assign rfl) rfl ?_
  refine L_nil ?_
  refine K_then ?_
  refine J_seq ?_
  refine J_region ?_
  refine L_v (opv_move rfl) rfl ?_
  refine L_v (opv_move rfl) rfl ?_
  refine L_x rfl (opx_call0 (Rtime_spec r (.slice A q.length c) cur free now) rfl rfl rfl) (fun _ _ => ?_)
  refine L_v (opv_assign rfl) rfl ?_
  refine L_nil ?_
  refine K_then ?_
  refine J_seq ?_
  refine J_seq ?_
  refine J_region ?_
  refine L_v (opv_move rfl) rfl ?_
  first
    | refine L_v (opv_neq rfl rfl) rfl ?_
    | refine L_v (opv_neqS rfl rfl) rfl ?_
    | refine L_v (opv_neqNil rfl rfl) rfl ?_
    | refine L_v (opv_neqB rfl rfl) rfl ?_
  refine L_nil ?_
  refine K_then ?_
  refine J_cond rfl (fun h1 => absurd h h1) (fun h1 => ?_)
  refine J_skip ?_
  refine K_then ?_
  refine J_seq ?_
  refine J_region ?_
  refine L_v (opv_move rfl) rfl ?_
  refine L_v (opv_move rfl) rfl ?_
  refine L_v (opv_nilCheck rfl) rfl ?_
  first
    | refine L_v (opv_fieldAddr0 rfl) rfl ?_
    | refine L_v (opv_fieldAddr rfl) rfl ?_
  refine L_x rfl (opx_store rfl rfl rfl (by simp [Value.oneCell'])) (fun _ _ => ?_)
  refine L_nil ?_
  refine K_then ?_
  refine J_seq ?_
  refine J_region ?_
  refine L_v (opv_assign rfl) rfl ?_
  refine L_nil ?_
  refine K_then ?_
  refine J_seq ?_
  refine J_region ?_
  refine L_v (opv_assign rfl) rfl ?_
  refine L_nil ?_
  refine K_then ?_
  refine J_seq ?_
  refine J_seq ?_
  refine J_region ?_
  refine L_v (opv_assign rfl) rfl ?_
  refine L_nil ?_
  refine K_then ?_
  refine J_block ?_
  refine J_loop (X := FS) (fun y => [(0, .pointer (some (ad r 0))), (1, .int .i64 now), (7, .slice y.g.1 ((q.take y.k).filter fun a => decide (a.e ≤ now)).length y.g.2), (8, .slice y.h.1 ((q.take y.k).filter fun a => !decide (a.e ≤ now)).length y.h.2), (9, .int .i64 y.k)]) (fun y => (sep (cel r [.slice A q.length c, .int .i64 now, .int .i64 free] 45) (sep (Own 48 4 (.slice A q.length c) q.length (flat q)) (sep (Own 48 4 (.slice y.g.1 ((q.take y.k).filter fun a => decide (a.e ≤ now)).length y.g.2) ((q.take y.k).filter fun a => decide (a.e ≤ now)).length (flat ((q.take y.k).filter fun a => decide (a.e ≤ now)))) (sep (Own 48 4 (.slice y.h.1 ((q.take y.k).filter fun a => !decide (a.e ≤ now)).length y.h.2) ((q.take y.k).filter fun a => !decide (a.e ≤ now)).length (flat ((q.take y.k).filter fun a => !decide (a.e ≤ now)))) (F)))))) (fun y => y.k ≤ q.length) (fun y => q.length - y.k) (⟨0, (none, 0), (none, 0)⟩) (Nat.zero_le _) ⟨rfl, rfl, rfl, rfl, rfl, trivial⟩ (Ent.frame_left (Ent.frame_left (Ent.trans (Ent.trans (Ent.of (emp_sep F).symm) ((Own.nil 48 4).frame F)) (Ent.trans (Ent.of (emp_sep _).symm) ((Own.nil 48 4).frame _))) _) _) (fun y hk => ?_)
  refine J_seq ?_
  refine J_seq ?_
  refine J_region ?_
  refine L_v (opv_move rfl) rfl ?_
  refine L_v (opv_move rfl) rfl ?_
  refine L_v (opv_nilCheck rfl) rfl ?_
  first
    | refine L_v (opv_fieldAddr0 rfl) rfl ?_
    | refine L_v (opv_fieldAddr rfl) rfl ?_
  refine L_v (opv_load rfl (Rd.look rfl)) rfl ?_
  first
    | refine L_v (opv_lenL rfl) rfl ?_
    | refine L_v (opv_lenS rfl) rfl ?_
  refine L_v (opv_lss rfl rfl) rfl ?_
  refine L_nil ?_
  refine K_then ?_
  refine J_cond rfl (fun h2 => ?_) (fun h2 => ?_)
  · have hkl : y.k < q.length := by omega
    obtain ⟨x, hx⟩ : ∃ x, q[y.k]? = some x := ⟨_, List.getElem?_eq_getElem hkl⟩
    obtain ⟨b, o, rfl⟩ : ∃ b o, A = some (ad b o) := by rcases hA with ⟨_, _, h, _⟩ | h; omega; exact h
    have hgl := List.length_filter_le (fun a : Sn => decide (a.e ≤ now)) (q.take y.k)
    have hkl2 := List.length_filter_le (fun a : Sn => !decide (a.e ≤ now)) (q.take y.k)
    have htl := List.length_take_le y.k q
    refine J_skip ?_
    refine K_then ?_
    refine J_seq ?_
    refine J_block ?_
    refine J_seq ?_
    refine J_region ?_
    refine L_v (opv_move rfl) rfl ?_
    refine L_v (opv_nilCheck rfl) rfl ?_
    first
      | refine L_v (opv_fieldAddr0 rfl) rfl ?_
      | refine L_v (opv_fieldAddr rfl) rfl ?_
    refine L_v (opv_load rfl (Rd.look rfl)) rfl ?_
    refine L_v (opv_move rfl) rfl ?_
    first
      | refine L_v (opv_indexAddr rfl rfl (by omega)) rfl ?_
      | refine L_v (opv_indexAddrA rfl rfl (by omega)) rfl ?_
    first
      | refine L_v (opv_fieldAddr0 rfl) rfl ?_
      | refine L_v (opv_fieldAddr rfl) rfl ?_
    refine L_v (opv_load rfl (Rd.of_take (S := Own 48 4 (.slice (some (ad b o)) q.length c) q.length (flat q)) ((RdS.own (m := 4) (e := 48) (c := c) enc_len (.inr ⟨b, o, rfl⟩)).rd b o rfl y.k x 3 _ hx rfl))) rfl ?_
    refine L_v (opv_move rfl) rfl ?_
    refine L_v (opv_leq rfl rfl) rfl ?_
    refine L_nil ?_
    refine K_then ?_
    refine J_cond rfl (fun h3 => ?_) (fun h3 => ?_)
    · refine J_region ?_
      refine L_v (opv_move rfl) rfl ?_
      refine L_v (opv_move rfl) rfl ?_
      refine L_v (opv_nilCheck rfl) rfl ?_
      first
        | refine L_v (opv_fieldAddr0 rfl) rfl ?_
        | refine L_v (opv_fieldAddr rfl) rfl ?_
      refine L_v (opv_load rfl (Rd.look rfl)) rfl ?_
      refine L_v (opv_move rfl) rfl ?_
      first
        | refine L_v (opv_indexAddr rfl rfl (by omega)) rfl ?_
        | refine L_v (opv_indexAddrA rfl rfl (by omega)) rfl ?_
      refine L_v (opv_loadN (vs := enc x) rfl rfl (fun j u hj => Rd.of_take (S := Own 48 4 (.slice (some (ad b o)) q.length c) q.length (flat q)) ((RdS.own (m := 4) (e := 48) (c := c) enc_len (.inr ⟨b, o, rfl⟩)).rd b o rfl y.k x j _ hx hj))) rfl ?_
      refine L_x rfl (opx_buildSlice1 (m := 4) rfl rfl (by omega) (by omega) rfl) (fun b47 _ => ?_)
      refine L_x rfl (opx_append (m := 4) (B := 40) rfl rfl (Src.lit) rfl (by omega) rfl (enc_one x) (by unfold maxLen; omega) (by omega) rfl) (fun y48 _ => ?_)
      refine L_v (opv_assign rfl) rfl ?_
      refine L_nil ?_
      refine K_block ?_
      refine K_then ?_
      refine J_region ?_
      refine L_v (opv_move rfl) rfl ?_
      first
        | refine L_v (opv_add64 rfl rfl (by omega)) rfl ?_
        | refine L_v (opv_addS rfl rfl (by omega)) rfl ?_
        | refine L_v (opv_add rfl rfl) rfl ?_
      refine L_v (opv_assign rfl) rfl ?_
      refine L_nil ?_
      have eg := filter_snoc (fun a : Sn => decide (a.e ≤ now)) hx
      have ek := filter_snoc (fun a : Sn => !decide (a.e ≤ now)) hx
      rw [if_pos (decide_eq_true h3)] at eg
      rw [if_neg (by simp only [decide_eq_true h3]; decide)] at ek
      rw [List.append_nil] at ek
      have e2 : flat ((q.take y.k).filter fun a => decide (a.e ≤ now)) ++ enc x = flat ((q.take (y.k + 1)).filter fun a => decide (a.e ≤ now)) := by rw [eg]; exact flat_snoc _ _
      have e3 : ((q.take y.k).filter fun a => decide (a.e ≤ now)).length + 1 = ((q.take (y.k + 1)).filter fun a => decide (a.e ≤ now)).length := by rw [eg]; simp
      rw [e2, e3, ← ek]
      exact K_loop (⟨y.k + 1, y48, y.h⟩) (by show y.k + 1 ≤ _; omega) (by show _ - (y.k + 1) < _; omega) ⟨rfl, rfl, rfl, rfl, rfl, trivial⟩ Ent.take
    · refine J_region ?_
      refine L_v (opv_move rfl) rfl ?_
      refine L_v (opv_move rfl) rfl ?_
      refine L_v (opv_nilCheck rfl) rfl ?_
      first
        | refine L_v (opv_fieldAddr0 rfl) rfl ?_
        | refine L_v (opv_fieldAddr rfl) rfl ?_
      refine L_v (opv_load rfl (Rd.look rfl)) rfl ?_
      refine L_v (opv_move rfl) rfl ?_
      first
        | refine L_v (opv_indexAddr rfl rfl (by omega)) rfl ?_
        | refine L_v (opv_indexAddrA rfl rfl (by omega)) rfl ?_
      refine L_v (opv_loadN (vs := enc x) rfl rfl (fun j u hj => Rd.of_take (S := Own 48 4 (.slice (some (ad b o)) q.length c) q.length (flat q)) ((RdS.own (m := 4) (e := 48) (c := c) enc_len (.inr ⟨b, o, rfl⟩)).rd b o rfl y.k x j _ hx hj))) rfl ?_
      refine L_x rfl (opx_buildSlice1 (m := 4) rfl rfl (by omega) (by omega) rfl) (fun b57 _ => ?_)
      refine L_x rfl (opx_append (m := 4) (B := 40) rfl rfl (Src.lit) rfl (by omega) rfl (enc_one x) (by unfold maxLen; omega) (by omega) rfl) (fun y58 _ => ?_)
      refine L_v (opv_assign rfl) rfl ?_
      refine L_nil ?_
      refine K_block ?_
      refine K_then ?_
      refine J_region ?_
      refine L_v (opv_move rfl) rfl ?_
      first
        | refine L_v (opv_add64 rfl rfl (by omega)) rfl ?_
        | refine L_v (opv_addS rfl rfl (by omega)) rfl ?_
        | refine L_v (opv_add rfl rfl) rfl ?_
      refine L_v (opv_assign rfl) rfl ?_
      refine L_nil ?_
      have eg := filter_snoc (fun a : Sn => decide (a.e ≤ now)) hx
      have ek := filter_snoc (fun a : Sn => !decide (a.e ≤ now)) hx
      rw [if_neg (by simp only [decide_eq_false h3]; decide)] at eg
      rw [if_pos (by simp only [decide_eq_false h3]; decide)] at ek
      rw [List.append_nil] at eg
      have e2 : flat ((q.take y.k).filter fun a => !decide (a.e ≤ now)) ++ enc x = flat ((q.take (y.k + 1)).filter fun a => !decide (a.e ≤ now)) := by rw [ek]; exact flat_snoc _ _
      have e3 : ((q.take y.k).filter fun a => !decide (a.e ≤ now)).length + 1 = ((q.take (y.k + 1)).filter fun a => !decide (a.e ≤ now)).length := by rw [ek]; simp
      rw [e2, e3, ← eg]
      exact K_loop (⟨y.k + 1, y.g, y58⟩) (by show y.k + 1 ≤ _; omega) (by show _ - (y.k + 1) < _; omega) ⟨rfl, rfl, rfl, rfl, rfl, trivial⟩ Ent.take
  · have he : y.k = q.length := by omega
    rw [he, List.take_length]
    refine J_exit ?_
    refine K_then_exit ?_
    refine K_then_exit ?_
    refine K_block_here ?_
    refine K_then ?_
    refine J_seq ?_
    refine J_region ?_
    refine L_v (opv_move rfl) rfl ?_
    refine L_v (opv_move rfl) rfl ?_
    refine L_v (opv_nilCheck rfl) rfl ?_
    first
      | refine L_v (opv_fieldAddr0 rfl) rfl ?_
      | refine L_v (opv_fieldAddr rfl) rfl ?_
    refine L_x rfl (opx_store rfl rfl rfl (by simp [Value.oneCell'])) (fun _ _ => ?_)
    refine L_nil ?_
    refine K_then ?_
    refine J_seq ?_
    refine J_region ?_
    refine L_v (opv_move rfl) rfl ?_
    refine L_v (opv_assign rfl) rfl ?_
    refine L_v (opv_assign rfl) rfl ?_
    refine L_nil ?_
    refine K_then ?_
    refine J_ret ?_
    exact K_ret2 rfl rfl rfl y.g trivial rfl (Ent.trans (Ent.take (Q := (sep (cel r [.slice y.h.1 (q.filter fun a => !decide (a.e ≤ now)).length y.h.2, .int .i64 now, .int .i64 free] 45) (sep (Own 48 4 (.slice y.h.1 (q.filter fun a => !decide (a.e ≤ now)).length y.h.2) (q.filter fun a => !decide (a.e ≤ now)).length (flat (q.filter fun a => !decide (a.e ≤ now)))) (sep (Own 48 4 (.slice y.g.1 (q.filter fun a => decide (a.e ≤ now)).length y.g.2) (q.filter fun a => decide (a.e ≤ now)).length (flat (q.filter fun a => decide (a.e ≤ now)))) (F)))))) (Ent.trans (RLineP.fold y.h.1 y.h.2) (Ent.of (by rw [sep_left_comm, sep_assoc]))))

end Go.Proofs.Ytpnpdliimidoaaa
