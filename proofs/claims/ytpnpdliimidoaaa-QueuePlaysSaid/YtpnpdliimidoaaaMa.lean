/- Contracts of functions of the translation (mux.Ticks, mux.Line.timely, mux.Line.Offer), each proved by a walk over its code. -/
import Derived.Test.YtpnpdliimidoaaaT
set_option linter.unusedVariables false
set_option linter.unusedSimpArgs false
namespace Go.Proofs.Ytpnpdliimidoaaa
open Go.SLA
set_option maxRecDepth 100000
attribute [local irreducible] J L K QL Rg FSpec OpV OpX Rd Back
theorem Ticks_spec (a : Int) (h : 0 ≤ a ∧ a ≤ 9000000000000000000) : FSpec Try.prog 25 #[.int .i64 a] (emp) (fun _ : Unit => True) (fun _ => .int .i64 (a + 20)) (fun _ => emp) := by
  refine FSpec.enter' Try.func25 rfl Try.ntmps25 rfl fun σ F => ?_
  refine J_seq ?_
  refine J_region ?_
  refine L_v (opv_assign rfl) rfl ?_
  refine L_nil ?_
  refine K_then ?_
  refine J_seq ?_
  refine J_region ?_
  refine L_v (opv_move rfl) rfl ?_
  first
    | refine L_v (opv_add64 rfl rfl (by omega)) rfl ?_
    | refine L_v (opv_addS rfl rfl (by omega)) rfl ?_
    | refine L_v (opv_add rfl rfl) rfl ?_
  refine L_v (opv_assign rfl) rfl ?_
  refine L_nil ?_
  refine K_then ?_
  refine J_ret ?_
  exact K_ret1 rfl rfl () trivial (rfl) (Ent.refl _)

/-- What is wrong with a tick. -/
def tim (cur t : Int) : Int := if t < 0 ∨ 1125899906842624 < t then 1 else if t < cur then 24 else 0
theorem tim_a {cur t : Int} (h : t < 0 ∨ 1125899906842624 < t) : tim cur t = 1 := by unfold tim; rw [if_pos h]
theorem tim_b {cur t : Int} (h : ¬ t < 0) (h' : ¬ 1125899906842624 < t) (k : t < cur) : tim cur t = 24 := by unfold tim; rw [if_neg (by omega), if_pos k]
theorem tim_c {cur t : Int} (h : ¬ t < 0) (h' : ¬ 1125899906842624 < t) (k : ¬ t < cur) : tim cur t = 0 := by unfold tim; rw [if_neg (by omega), if_neg k]
theorem rv {a b : Int} (h : a = b) : Value.int .i64 a = .int .i64 b := by rw [h]

theorem timely_nil (t : Int) : FSpec Try.prog 41 #[.pointer none, .int .i64 t] (emp) (fun _ : Unit => True) (fun _ => .int .i64 2) (fun _ => emp) := by
  refine FSpec.enter' Try.func41 rfl Try.ntmps41 rfl fun σ F => ?_
  refine J_seq ?_
  refine J_region ?_
  refine L_v (opv_assign rfl) rfl ?_
  refine L_nil ?_
  refine K_then ?_
  refine J_seq ?_
  refine J_block ?_
  refine J_seq ?_
  refine J_region ?_
  refine L_v (opv_move rfl) rfl ?_
  first
    | refine L_v (opv_eql rfl rfl) rfl ?_
    | refine L_v (opv_eqlS rfl rfl) rfl ?_
    | refine L_v (opv_eqlNil rfl rfl) rfl ?_
    | refine L_v (opv_eqlB rfl rfl) rfl ?_
  refine L_v (opv_assign rfl) rfl ?_
  refine L_nil ?_
  refine K_then ?_
  refine J_cond_true rfl ?_
  refine J_seq ?_
  refine J_region ?_
  refine L_v (opv_assign rfl) rfl ?_
  refine L_nil ?_
  refine K_then ?_
  refine J_ret ?_
  refine K_block_ret ?_
  refine K_then_ret ?_
  exact K_ret1 rfl rfl () trivial (rfl) (Ent.refl _)

theorem timely_spec (p : Nat) (v : Value) (cur free t : Int) : FSpec Try.prog 41 #[.pointer (some (ad p 0)), .int .i64 t] (cel p [v, .int .i64 cur, .int .i64 free] 76) (fun _ : Unit => True) (fun _ => .int .i64 (tim cur t)) (fun _ => cel p [v, .int .i64 cur, .int .i64 free] 76) := by
  refine FSpec.enter' Try.func41 rfl Try.ntmps41 rfl fun σ F => ?_
  refine J_seq ?_
  refine J_region ?_
  refine L_v (opv_assign rfl) rfl ?_
  refine L_nil ?_
  refine K_then ?_
  refine J_seq ?_
  refine J_block ?_
  refine J_seq ?_
  refine J_region ?_
  refine L_v (opv_move rfl) rfl ?_
  first
    | refine L_v (opv_eql rfl rfl) rfl ?_
    | refine L_v (opv_eqlS rfl rfl) rfl ?_
    | refine L_v (opv_eqlNil rfl rfl) rfl ?_
    | refine L_v (opv_eqlB rfl rfl) rfl ?_
  refine L_v (opv_assign rfl) rfl ?_
  refine L_nil ?_
  refine K_then ?_
  refine J_cond_false rfl ?_
  refine J_seq ?_
  refine J_region ?_
  refine L_v (opv_move rfl) rfl ?_
  refine L_v (opv_lss rfl rfl) rfl ?_
  refine L_v (opv_move rfl) rfl ?_
  refine L_gf rfl rfl (fun h1 => ?_) (fun h1 => ?_) (fun _ h => by cases h; rfl)
  · refine L_v (opv_move rfl) rfl ?_
    refine L_gf_on h1 rfl rfl ?_
    refine L_v (opv_gtr rfl rfl) rfl ?_
    refine L_v (opv_pick_f rfl h1 rfl) rfl ?_
    refine L_v (opv_assign rfl) rfl ?_
    refine L_nil ?_
    refine K_then ?_
    refine J_cond rfl (fun h2 => ?_) (fun h2 => ?_)
    · refine J_seq ?_
      refine J_region ?_
      refine L_v (opv_assign rfl) rfl ?_
      refine L_nil ?_
      refine K_then ?_
      refine J_ret ?_
      refine K_block_ret ?_
      refine K_then_ret ?_
      exact K_ret1 rfl rfl () trivial (rv (by first | exact (tim_a (by omega)).symm | exact (tim_b (by omega) (by omega) (by omega)).symm | exact (tim_c (by omega) (by omega) (by omega)).symm)) (Ent.refl _)
    · refine J_seq ?_
      refine J_region ?_
      refine L_v (opv_move rfl) rfl ?_
      refine L_v (opv_move rfl) rfl ?_
      refine L_v (opv_nilCheck rfl) rfl ?_
      first
        | refine L_v (opv_fieldAddr0 rfl) rfl ?_
        | refine L_v (opv_fieldAddr rfl) rfl ?_
      refine L_v (opv_load rfl (Rd.look rfl)) rfl ?_
      refine L_v (opv_lss rfl rfl) rfl ?_
      refine L_v (opv_assign rfl) rfl ?_
      refine L_nil ?_
      refine K_then ?_
      refine J_cond rfl (fun h3 => ?_) (fun h3 => ?_)
      · refine J_seq ?_
        refine J_region ?_
        refine L_v (opv_assign rfl) rfl ?_
        refine L_nil ?_
        refine K_then ?_
        refine J_ret ?_
        refine K_block_ret ?_
        refine K_then_ret ?_
        exact K_ret1 rfl rfl () trivial (rv (by first | exact (tim_a (by omega)).symm | exact (tim_b (by omega) (by omega) (by omega)).symm | exact (tim_c (by omega) (by omega) (by omega)).symm)) (Ent.refl _)
      · refine J_skip ?_
        refine K_block ?_
        refine K_then ?_
        refine J_seq ?_
        refine J_region ?_
        refine L_v (opv_assign rfl) rfl ?_
        refine L_nil ?_
        refine K_then ?_
        refine J_ret ?_
        exact K_ret1 rfl rfl () trivial (rv (by first | exact (tim_a (by omega)).symm | exact (tim_b (by omega) (by omega) (by omega)).symm | exact (tim_c (by omega) (by omega) (by omega)).symm)) (Ent.refl _)
  · refine L_gf_off h1 rfl rfl ?_ (fun _ h => by cases h; rfl)
    refine L_v (opv_pick_t rfl h1 rfl) rfl ?_
    refine L_v (opv_assign rfl) rfl ?_
    refine L_nil ?_
    refine K_then ?_
    refine J_cond_true rfl ?_
    refine J_seq ?_
    refine J_region ?_
    refine L_v (opv_assign rfl) rfl ?_
    refine L_nil ?_
    refine K_then ?_
    refine J_ret ?_
    refine K_block_ret ?_
    refine K_then_ret ?_
    exact K_ret1 rfl rfl () trivial (rv (by first | exact (tim_a (by omega)).symm | exact (tim_b (by omega) (by omega) (by omega)).symm | exact (tim_c (by omega) (by omega) (by omega)).symm)) (Ent.refl _)


/-- A text on a wire. -/
structure Sn where
  id : Int
  tx : ByteArray
  b : Int
  e : Int
def enc (x : Sn) : List Value := [.int .i64 x.id, .string x.tx, .int .i64 x.b, .int .i64 x.e]
abbrev flat (q : List Sn) : List Value := q.flatMap enc
theorem flat_length (q : List Sn) : (flat q).length = q.length * 4 := by
  unfold flat
  induction q with
  | nil => rfl
  | cons x q ih => rw [List.flatMap_cons, List.length_append, ih, List.length_cons]; show 4 + _ = _; omega
theorem flat_snoc (q : List Sn) (x : Sn) : flat q ++ enc x = flat (q ++ [x]) := by simp [flat]
/-- A wire at p: what waits, its tick, when it is free. -/
def LineP (p : Nat) (q : List Sn) (cur free : Int) : HProp := ex fun x : Option Addr × Nat => (sep (cel p [.slice x.1 q.length x.2, .int .i64 cur, .int .i64 free] 76) (Own 30 4 (.slice x.1 q.length x.2) q.length (flat q)))
theorem LineP.fold {p : Nat} {q : List Sn} {cur free : Int} {F : HProp} (A : Option Addr) (c : Nat) : Ent (sep (cel p [.slice A q.length c, .int .i64 cur, .int .i64 free] 76) (sep (Own 30 4 (.slice A q.length c) q.length (flat q)) (F))) (sep (LineP p q cur free) (F)) := by
  rw [← sep_assoc]
  exact Ent.ex (f := fun x : Option Addr × Nat => (sep (cel p [.slice x.1 q.length x.2, .int .i64 cur, .int .i64 free] 76) (Own 30 4 (.slice x.1 q.length x.2) q.length (flat q)))) (A, c)
/-- What an offer comes to: its answer, what waits, the tick, when the wire is free. -/
def offer (q : List Sn) (cur free now id : Int) (text : ByteArray) : Int × List Sn × Int × Int :=
  if tim cur now ≠ 0 then (tim cur now, q, cur, free)
  else if 1518 < (text.size : Int) then (11, q, cur, free)
  else if 4096 ≤ (q.length : Int) then (22, q, cur, free)
  else (0, q ++ [⟨id, text, if free > now then free else now, (if free > now then free else now) + ((text.size : Int) + 20)⟩], now, (if free > now then free else now) + ((text.size : Int) + 20))
theorem offer_a {q : List Sn} {cur free now id : Int} {text : ByteArray} (h : tim cur now ≠ 0) : offer q cur free now id text = (tim cur now, q, cur, free) := by unfold offer; rw [if_pos h]
theorem offer_b {q : List Sn} {cur free now id : Int} {text : ByteArray} (h : ¬ tim cur now ≠ 0) (h2 : 1518 < (text.size : Int)) : offer q cur free now id text = (11, q, cur, free) := by unfold offer; rw [if_neg h, if_pos h2]
theorem offer_c {q : List Sn} {cur free now id : Int} {text : ByteArray} (h : ¬ tim cur now ≠ 0) (h2 : ¬ 1518 < (text.size : Int)) (h3 : 4096 ≤ (q.length : Int)) : offer q cur free now id text = (22, q, cur, free) := by unfold offer; rw [if_neg h, if_neg h2, if_pos h3]
theorem offer_d {q : List Sn} {cur free now id : Int} {text : ByteArray} (h : ¬ tim cur now ≠ 0) (h2 : ¬ 1518 < (text.size : Int)) (h3 : ¬ 4096 ≤ (q.length : Int)) : offer q cur free now id text =
    (0, q ++ [⟨id, text, if free > now then free else now, (if free > now then free else now) + ((text.size : Int) + 20)⟩], now, (if free > now then free else now) + ((text.size : Int) + 20)) := by unfold offer; rw [if_neg h, if_neg h2, if_neg h3]

theorem Offer_spec (p : Nat) (q : List Sn) (cur free now id : Int) (text : ByteArray) (hf : 0 ≤ free ∧ free ≤ 2000000000000000000) (hn : -9223372036854775808 ≤ now ∧ now ≤ 2000000000000000000) : FSpec Try.prog 19 #[.pointer (some (ad p 0)), .int .i64 now, .int .i64 id, .string text] (LineP p q cur free) (fun _ : Unit => True) (fun _ => .int .i64 (offer q cur free now id text).1) (fun _ => LineP p (offer q cur free now id text).2.1 (offer q cur free now id text).2.2.1 (offer q cur free now id text).2.2.2) := by
  have hm : -9223372036854775808 ≤ (if free > now then free else now) ∧ (if free > now then free else now) ≤ 2000000000000000000 := by split <;> omega
  refine FSpec.enter' Try.func19 rfl Try.ntmps19 rfl fun σ F => ?_
  refine J_ex fun x => ?_
  refine J_eq _ (sep_assoc _ _ _) ?_
  refine J_seq ?_
  refine J_region ?_
  refine L_v (opv_assign rfl) rfl ?_
  refine L_nil ?_
  refine K_then ?_
  refine J_seq ?_
  refine J_region ?_
  refine L_v (opv_move rfl) rfl ?_
  refine L_v (opv_move rfl) rfl ?_
  refine L_x rfl (opx_call0 (timely_spec p (.slice x.1 q.length x.2) cur free now) rfl rfl rfl) (fun _ _ => ?_)
  refine L_v (opv_assign rfl) rfl ?_
  refine L_nil ?_
  refine K_then ?_
  refine J_seq ?_
  refine J_block ?_
  refine J_seq ?_
  refine J_region ?_
  refine L_v (opv_move rfl) rfl ?_
  first
    | refine L_v (opv_neq rfl rfl) rfl ?_
    | refine L_v (opv_neqS rfl rfl) rfl ?_
    | refine L_v (opv_neqNil rfl rfl) rfl ?_
    | refine L_v (opv_neqB rfl rfl) rfl ?_
  refine L_v (opv_assign rfl) rfl ?_
  refine L_nil ?_
  refine K_then ?_
  refine J_cond rfl (fun h1 => ?_) (fun h1 => ?_)
  · refine J_seq ?_
    refine J_region ?_
    refine L_v (opv_move rfl) rfl ?_
    refine L_v (opv_assign rfl) rfl ?_
    refine L_nil ?_
    refine K_then ?_
    refine J_ret ?_
    refine K_block_ret ?_
    refine K_then_ret ?_
    rw [offer_a h1]
    exact K_ret1 rfl rfl () trivial rfl (LineP.fold x.1 x.2)
  · refine J_seq ?_
    refine J_region ?_
    refine L_v (opv_move rfl) rfl ?_
    first
      | refine L_v (opv_lenL rfl) rfl ?_
      | refine L_v (opv_lenS rfl) rfl ?_
    refine L_v (opv_gtr rfl rfl) rfl ?_
    refine L_v (opv_assign rfl) rfl ?_
    refine L_nil ?_
    refine K_then ?_
    refine J_cond rfl (fun h2 => ?_) (fun h2 => ?_)
    · refine J_seq ?_
      refine J_region ?_
      refine L_v (opv_assign rfl) rfl ?_
      refine L_nil ?_
      refine K_then ?_
      refine J_ret ?_
      refine K_block_ret ?_
      refine K_then_ret ?_
      rw [offer_b h1 h2]
      exact K_ret1 rfl rfl () trivial rfl (LineP.fold x.1 x.2)
    · refine J_seq ?_
      refine J_region ?_
      refine L_v (opv_move rfl) rfl ?_
      refine L_v (opv_nilCheck rfl) rfl ?_
      first
        | refine L_v (opv_fieldAddr0 rfl) rfl ?_
        | refine L_v (opv_fieldAddr rfl) rfl ?_
      refine L_v (opv_load rfl (Rd.look rfl)) rfl ?_
      first
        | refine L_v (opv_lenL rfl) rfl ?_
        | refine L_v (opv_lenS rfl) rfl ?_
      refine L_v (opv_geq rfl rfl) rfl ?_
      refine L_v (opv_assign rfl) rfl ?_
      refine L_nil ?_
      refine K_then ?_
      refine J_cond rfl (fun h3 => ?_) (fun h3 => ?_)
      · refine J_seq ?_
        refine J_region ?_
        refine L_v (opv_assign rfl) rfl ?_
        refine L_nil ?_
        refine K_then ?_
        refine J_ret ?_
        refine K_block_ret ?_
        refine K_then_ret ?_
        rw [offer_c h1 h2 h3]
        exact K_ret1 rfl rfl () trivial rfl (LineP.fold x.1 x.2)
      · refine J_skip ?_
        refine K_block ?_
        refine K_then ?_
        refine J_seq ?_
        refine J_region ?_
        refine L_v (opv_move rfl) rfl ?_
        refine L_v (opv_move rfl) rfl ?_
        refine L_v (opv_move rfl) rfl ?_
        refine L_v (opv_move rfl) rfl ?_
        refine L_v (opv_nilCheck rfl) rfl ?_
        first
          | refine L_v (opv_fieldAddr0 rfl) rfl ?_
          | refine L_v (opv_fieldAddr rfl) rfl ?_
        refine L_v (opv_load rfl (Rd.look rfl)) rfl ?_
        refine L_v (opv_max rfl rfl) rfl ?_
        refine L_v (opv_build rfl) rfl ?_
        refine L_x rfl (opx_alloc rfl) (fun b10 _ => ?_)
        refine L_x rfl (opx_store rfl rfl rfl (by simp [Value.oneCell'])) (fun _ _ => ?_)
        refine L_nil ?_
        refine K_then ?_
        refine J_seq ?_
        refine J_steps (emp) (cel b10 [.int .i64 id, .string text, .int .i64 (if free > now then free else now), .int .i64 0] 30) [7] Try.mixed ?_
        first
          | refine R_pure 0 rfl (by kernel_rfl) (by kernel_rfl) (by kernel_rfl) (by kernel_rfl) (.inr ⟨_, Take.eq (A := cel b10 [.int .i64 id, .string text, .int .i64 (if free > now then free else now), .int .i64 0] 30)⟩) (opv_fieldAddr0 rfl) rfl ?_
          | refine R_pure 0 rfl (by kernel_rfl) (by kernel_rfl) (by kernel_rfl) (by kernel_rfl) (.inr ⟨_, Take.eq (A := cel b10 [.int .i64 id, .string text, .int .i64 (if free > now then free else now), .int .i64 0] 30)⟩) (opv_fieldAddr rfl) rfl ?_
        refine R_take 1 rfl (by kernel_rfl) (by kernel_rfl) (by kernel_rfl) (by kernel_rfl) (by kernel_rfl) (opv_load rfl (Rd.look rfl)) rfl ?_
        refine R_pure 2 rfl (by kernel_rfl) (by kernel_rfl) (by kernel_rfl) (by kernel_rfl) (.inr ⟨_, Take.eq (A := cel b10 [.int .i64 id, .string text, .int .i64 (if free > now then free else now), .int .i64 0] 30)⟩) (opv_move rfl) rfl ?_
        first
          | refine R_pure 3 rfl (by kernel_rfl) (by kernel_rfl) (by kernel_rfl) (by kernel_rfl) (.inr ⟨_, Take.eq (A := cel b10 [.int .i64 id, .string text, .int .i64 (if free > now then free else now), .int .i64 0] 30)⟩) (opv_lenL rfl) rfl ?_
          | refine R_pure 3 rfl (by kernel_rfl) (by kernel_rfl) (by kernel_rfl) (by kernel_rfl) (.inr ⟨_, Take.eq (A := cel b10 [.int .i64 id, .string text, .int .i64 (if free > now then free else now), .int .i64 0] 30)⟩) (opv_lenS rfl) rfl ?_
        refine R_only 4 rfl rfl (by kernel_rfl) (opx_call0 (Ticks_spec (text.size : Int) (by omega)) rfl rfl rfl) (fun _ _ => ⟨_, Take.eq (A := emp)⟩) (.inr fun _ _ => ⟨_, Take.eq (A := cel b10 [.int .i64 id, .string text, .int .i64 (if free > now then free else now), .int .i64 0] 30)⟩) (fun _ _ => ?_)
        refine Rg_emp ?_
        first
          | refine R_pure 5 rfl (by kernel_rfl) (by kernel_rfl) (by kernel_rfl) (by kernel_rfl) (.inr ⟨_, Take.eq (A := cel b10 [.int .i64 id, .string text, .int .i64 (if free > now then free else now), .int .i64 0] 30)⟩) (opv_add64 rfl rfl (by omega)) rfl ?_
          | refine R_pure 5 rfl (by kernel_rfl) (by kernel_rfl) (by kernel_rfl) (by kernel_rfl) (.inr ⟨_, Take.eq (A := cel b10 [.int .i64 id, .string text, .int .i64 (if free > now then free else now), .int .i64 0] 30)⟩) (opv_addS rfl rfl (by omega)) rfl ?_
          | refine R_pure 5 rfl (by kernel_rfl) (by kernel_rfl) (by kernel_rfl) (by kernel_rfl) (.inr ⟨_, Take.eq (A := cel b10 [.int .i64 id, .string text, .int .i64 (if free > now then free else now), .int .i64 0] 30)⟩) (opv_add rfl rfl) rfl ?_
        first
          | refine R_pure 6 rfl (by kernel_rfl) (by kernel_rfl) (by kernel_rfl) (by kernel_rfl) (.inr ⟨_, Take.eq (A := cel b10 [.int .i64 id, .string text, .int .i64 (if free > now then free else now), .int .i64 0] 30)⟩) (opv_fieldAddr0 rfl) rfl ?_
          | refine R_pure 6 rfl (by kernel_rfl) (by kernel_rfl) (by kernel_rfl) (by kernel_rfl) (.inr ⟨_, Take.eq (A := cel b10 [.int .i64 id, .string text, .int .i64 (if free > now then free else now), .int .i64 0] 30)⟩) (opv_fieldAddr rfl) rfl ?_
        refine R_only 7 rfl rfl (by kernel_rfl) (opx_store rfl rfl rfl (by simp [Value.oneCell'])) (fun _ _ => ⟨_, Take.eq (A := emp)⟩) (.inl (by kernel_rfl)) (fun _ _ => ?_)
        refine R_done (by kernel_rfl) ?_
        refine K_then ?_
        refine J_seq ?_
        refine J_steps (cel b10 [.int .i64 id, .string text, .int .i64 (if free > now then free else now), .int .i64 ((if free > now then free else now) + ((text.size : Int) + 20))] 30) ((sep (cel b10 [.int .i64 id, .string text, .int .i64 (if free > now then free else now), .int .i64 ((if free > now then free else now) + ((text.size : Int) + 20))] 30) (cel p [.slice x.1 q.length x.2, .int .i64 cur, .int .i64 free] 76))) [15] Try.mixed ?_
        refine R_pure 0 rfl (by kernel_rfl) (by kernel_rfl) (by kernel_rfl) (by kernel_rfl) (.inr ⟨_, Take.eq (A := (sep (cel b10 [.int .i64 id, .string text, .int .i64 (if free > now then free else now), .int .i64 ((if free > now then free else now) + ((text.size : Int) + 20))] 30) (cel p [.slice x.1 q.length x.2, .int .i64 cur, .int .i64 free] 76)))⟩) (opv_move rfl) rfl ?_
        refine R_pure 1 rfl (by kernel_rfl) (by kernel_rfl) (by kernel_rfl) (by kernel_rfl) (.inr ⟨_, Take.eq (A := (sep (cel b10 [.int .i64 id, .string text, .int .i64 (if free > now then free else now), .int .i64 ((if free > now then free else now) + ((text.size : Int) + 20))] 30) (cel p [.slice x.1 q.length x.2, .int .i64 cur, .int .i64 free] 76)))⟩) (opv_move rfl) rfl ?_
        refine R_pure 2 rfl (by kernel_rfl) (by kernel_rfl) (by kernel_rfl) (by kernel_rfl) (.inr ⟨_, Take.eq (A := (sep (cel b10 [.int .i64 id, .string text, .int .i64 (if free > now then free else now), .int .i64 ((if free > now then free else now) + ((text.size : Int) + 20))] 30) (cel p [.slice x.1 q.length x.2, .int .i64 cur, .int .i64 free] 76)))⟩) (opv_move rfl) rfl ?_
        refine R_pure 3 rfl (by kernel_rfl) (by kernel_rfl) (by kernel_rfl) (by kernel_rfl) (.inr ⟨_, Take.eq (A := (sep (cel b10 [.int .i64 id, .string text, .int .i64 (if free > now then free else now), .int .i64 ((if free > now then free else now) + ((text.size : Int) + 20))] 30) (cel p [.slice x.1 q.length x.2, .int .i64 cur, .int .i64 free] 76)))⟩) (opv_move rfl) rfl ?_
        refine R_pure 4 rfl (by kernel_rfl) (by kernel_rfl) (by kernel_rfl) (by kernel_rfl) (.inr ⟨_, Take.eq (A := (sep (cel b10 [.int .i64 id, .string text, .int .i64 (if free > now then free else now), .int .i64 ((if free > now then free else now) + ((text.size : Int) + 20))] 30) (cel p [.slice x.1 q.length x.2, .int .i64 cur, .int .i64 free] 76)))⟩) (opv_nilCheck rfl) rfl ?_
        first
          | refine R_pure 5 rfl (by kernel_rfl) (by kernel_rfl) (by kernel_rfl) (by kernel_rfl) (.inr ⟨_, Take.eq (A := (sep (cel b10 [.int .i64 id, .string text, .int .i64 (if free > now then free else now), .int .i64 ((if free > now then free else now) + ((text.size : Int) + 20))] 30) (cel p [.slice x.1 q.length x.2, .int .i64 cur, .int .i64 free] 76)))⟩) (opv_fieldAddr0 rfl) rfl ?_
          | refine R_pure 5 rfl (by kernel_rfl) (by kernel_rfl) (by kernel_rfl) (by kernel_rfl) (.inr ⟨_, Take.eq (A := (sep (cel b10 [.int .i64 id, .string text, .int .i64 (if free > now then free else now), .int .i64 ((if free > now then free else now) + ((text.size : Int) + 20))] 30) (cel p [.slice x.1 q.length x.2, .int .i64 cur, .int .i64 free] 76)))⟩) (opv_fieldAddr rfl) rfl ?_
        refine R_take 6 rfl (by kernel_rfl) (by kernel_rfl) (by kernel_rfl) (by kernel_rfl) (by kernel_rfl) (opv_load rfl (Rd.look rfl)) rfl ?_
        refine R_take 7 rfl (by kernel_rfl) (by kernel_rfl) (by kernel_rfl) (by kernel_rfl) (by kernel_rfl) (opv_loadS rfl) rfl ?_
        refine R_pure 10 rfl (by kernel_rfl) (by kernel_rfl) (by kernel_rfl) (by kernel_rfl) (.inr ⟨_, Take.eq (A := (sep (cel b10 [.int .i64 id, .string text, .int .i64 (if free > now then free else now), .int .i64 ((if free > now then free else now) + ((text.size : Int) + 20))] 30) (cel p [.slice x.1 q.length x.2, .int .i64 cur, .int .i64 free] 76)))⟩) (opv_move rfl) rfl ?_
        first
          | refine R_pure 11 rfl (by kernel_rfl) (by kernel_rfl) (by kernel_rfl) (by kernel_rfl) (.inr ⟨_, Take.eq (A := (sep (cel b10 [.int .i64 id, .string text, .int .i64 (if free > now then free else now), .int .i64 ((if free > now then free else now) + ((text.size : Int) + 20))] 30) (cel p [.slice x.1 q.length x.2, .int .i64 cur, .int .i64 free] 76)))⟩) (opv_fieldAddr0 rfl) rfl ?_
          | refine R_pure 11 rfl (by kernel_rfl) (by kernel_rfl) (by kernel_rfl) (by kernel_rfl) (.inr ⟨_, Take.eq (A := (sep (cel b10 [.int .i64 id, .string text, .int .i64 (if free > now then free else now), .int .i64 ((if free > now then free else now) + ((text.size : Int) + 20))] 30) (cel p [.slice x.1 q.length x.2, .int .i64 cur, .int .i64 free] 76)))⟩) (opv_fieldAddr rfl) rfl ?_
        refine R_pure 12 rfl (by kernel_rfl) (by kernel_rfl) (by kernel_rfl) (by kernel_rfl) (.inr ⟨_, Take.eq (A := (sep (cel b10 [.int .i64 id, .string text, .int .i64 (if free > now then free else now), .int .i64 ((if free > now then free else now) + ((text.size : Int) + 20))] 30) (cel p [.slice x.1 q.length x.2, .int .i64 cur, .int .i64 free] 76)))⟩) (opv_load rfl (Rd.look rfl)) rfl ?_
        refine R_only 8 rfl rfl (by kernel_rfl) (opx_buildSlice1 (m := 4) rfl rfl (by omega) (by omega) rfl) (fun _ _ => ⟨_, Take.eq (A := cel b10 [.int .i64 id, .string text, .int .i64 (if free > now then free else now), .int .i64 ((if free > now then free else now) + ((text.size : Int) + 20))] 30)⟩) (.inr fun _ _ => ⟨_, Take.eq (A := (sep (cel b10 [.int .i64 id, .string text, .int .i64 (if free > now then free else now), .int .i64 ((if free > now then free else now) + ((text.size : Int) + 20))] 30) (cel p [.slice x.1 q.length x.2, .int .i64 cur, .int .i64 free] 76)))⟩) (fun b53 _ => ?_)
        refine R_only 9 rfl rfl (by kernel_rfl) (opx_append (m := 4) (B := 40) rfl rfl (Src.lit) rfl (by omega) rfl (by simp [Value.oneCell']) (by unfold maxLen; omega) (by omega) rfl) (fun _ _ => ⟨_, Take.eq (A := cel b10 [.int .i64 id, .string text, .int .i64 (if free > now then free else now), .int .i64 ((if free > now then free else now) + ((text.size : Int) + 20))] 30)⟩) (.inr fun _ _ => ⟨_, Take.eq (A := (sep (cel b10 [.int .i64 id, .string text, .int .i64 (if free > now then free else now), .int .i64 ((if free > now then free else now) + ((text.size : Int) + 20))] 30) (cel p [.slice x.1 q.length x.2, .int .i64 cur, .int .i64 free] 76)))⟩) (fun y54 _ => ?_)
        refine R_pure 13 rfl (by kernel_rfl) (by kernel_rfl) (by kernel_rfl) (by kernel_rfl) (.inr ⟨_, Take.eq (A := (sep (cel b10 [.int .i64 id, .string text, .int .i64 (if free > now then free else now), .int .i64 ((if free > now then free else now) + ((text.size : Int) + 20))] 30) (cel p [.slice x.1 q.length x.2, .int .i64 cur, .int .i64 free] 76)))⟩) (opv_nilCheck rfl) rfl ?_
        first
          | refine R_pure 14 rfl (by kernel_rfl) (by kernel_rfl) (by kernel_rfl) (by kernel_rfl) (.inr ⟨_, Take.eq (A := (sep (cel b10 [.int .i64 id, .string text, .int .i64 (if free > now then free else now), .int .i64 ((if free > now then free else now) + ((text.size : Int) + 20))] 30) (cel p [.slice x.1 q.length x.2, .int .i64 cur, .int .i64 free] 76)))⟩) (opv_fieldAddr0 rfl) rfl ?_
          | refine R_pure 14 rfl (by kernel_rfl) (by kernel_rfl) (by kernel_rfl) (by kernel_rfl) (.inr ⟨_, Take.eq (A := (sep (cel b10 [.int .i64 id, .string text, .int .i64 (if free > now then free else now), .int .i64 ((if free > now then free else now) + ((text.size : Int) + 20))] 30) (cel p [.slice x.1 q.length x.2, .int .i64 cur, .int .i64 free] 76)))⟩) (opv_fieldAddr rfl) rfl ?_
        refine R_only 15 rfl rfl (by kernel_rfl) (opx_store rfl rfl rfl (by simp [Value.oneCell'])) (fun _ _ => ⟨_, Take.eq (A := cel b10 [.int .i64 id, .string text, .int .i64 (if free > now then free else now), .int .i64 ((if free > now then free else now) + ((text.size : Int) + 20))] 30)⟩) (.inl (by kernel_rfl)) (fun _ _ => ?_)
        refine R_pure 16 rfl (by kernel_rfl) (by kernel_rfl) (by kernel_rfl) (by kernel_rfl) (.inl (by kernel_rfl)) (opv_nilCheck rfl) rfl ?_
        first
          | refine R_pure 17 rfl (by kernel_rfl) (by kernel_rfl) (by kernel_rfl) (by kernel_rfl) (.inl (by kernel_rfl)) (opv_fieldAddr0 rfl) rfl ?_
          | refine R_pure 17 rfl (by kernel_rfl) (by kernel_rfl) (by kernel_rfl) (by kernel_rfl) (.inl (by kernel_rfl)) (opv_fieldAddr rfl) rfl ?_
        refine R_only 18 rfl rfl (by kernel_rfl) (opx_store rfl rfl rfl (by simp [Value.oneCell'])) (fun _ _ => ⟨_, Take.eq (A := cel b10 [.int .i64 id, .string text, .int .i64 (if free > now then free else now), .int .i64 ((if free > now then free else now) + ((text.size : Int) + 20))] 30)⟩) (.inl (by kernel_rfl)) (fun _ _ => ?_)
        refine R_pure 19 rfl (by kernel_rfl) (by kernel_rfl) (by kernel_rfl) (by kernel_rfl) (.inl (by kernel_rfl)) (opv_nilCheck rfl) rfl ?_
        first
          | refine R_pure 20 rfl (by kernel_rfl) (by kernel_rfl) (by kernel_rfl) (by kernel_rfl) (.inl (by kernel_rfl)) (opv_fieldAddr0 rfl) rfl ?_
          | refine R_pure 20 rfl (by kernel_rfl) (by kernel_rfl) (by kernel_rfl) (by kernel_rfl) (.inl (by kernel_rfl)) (opv_fieldAddr rfl) rfl ?_
        refine R_only 21 rfl rfl (by kernel_rfl) (opx_store rfl rfl rfl (by simp [Value.oneCell'])) (fun _ _ => ⟨_, Take.eq (A := cel b10 [.int .i64 id, .string text, .int .i64 (if free > now then free else now), .int .i64 ((if free > now then free else now) + ((text.size : Int) + 20))] 30)⟩) (.inl (by kernel_rfl)) (fun _ _ => ?_)
        refine R_done (by kernel_rfl) ?_
        refine K_then ?_
        refine J_seq ?_
        refine J_region ?_
        refine L_v (opv_assign rfl) rfl ?_
        refine L_nil ?_
        refine K_then ?_
        refine J_ret ?_
        rw [offer_d h1 h2 h3]
        have hq : flat q ++ [.int .i64 id, .string text, .int .i64 (if free > now then free else now), .int .i64 ((if free > now then free else now) + ((text.size : Int) + 20))] = flat (q ++ [(⟨id, text, (if free > now then free else now), ((if free > now then free else now) + ((text.size : Int) + 20))⟩ : Sn)]) := flat_snoc q (⟨id, text, (if free > now then free else now), ((if free > now then free else now) + ((text.size : Int) + 20))⟩ : Sn)
        rw [hq, show q.length + 1 = (q ++ [(⟨id, text, (if free > now then free else now), ((if free > now then free else now) + ((text.size : Int) + 20))⟩ : Sn)]).length by simp]
        exact K_ret1 (Qo := fun _ => LineP p (q ++ [(⟨id, text, (if free > now then free else now), ((if free > now then free else now) + ((text.size : Int) + 20))⟩ : Sn)]) now ((if free > now then free else now) + ((text.size : Int) + 20))) rfl rfl () trivial rfl (Ent.trans Ent.take (LineP.fold y54.1 y54.2))
end Go.Proofs.Ytpnpdliimidoaaa
