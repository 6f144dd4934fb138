/- Contracts of functions of the package queue, each proved by a walk over its code; they are used by the texts that import this one. -/
import Derived.Test.YtpnpdliimidoaaaMg
import Derived.Test.YtpnpdliimidoaaaH
namespace Go.Proofs.Ytpnpdliimidoaaa
open Go.SLA
set_option maxRecDepth 100000
set_option linter.unusedVariables false
set_option linter.unusedSimpArgs false
attribute [local irreducible] J L K QL Rg FSpec OpV OpX Rd Back
/-- A text that waits. -/
structure Wt where
  id : Int
  tx : ByteArray
/-- What begins at a tick. -/
def goes (x : Wt) (t : Int) : Sn := ⟨x.id, x.tx, t, t + ((x.tx.size : Int) + 20)⟩
/-- What waits, of both kinds, whether something is going and what (or what was last), and what has gone. -/
structure QS where
  h : List Wt
  l : List Wt
  b : Bool
  go : Sn
  out : List Sn
/-- The next one begins. -/
def QS.next (s : QS) (t : Int) : QS := match s.h with
  | x :: h => { s with h := h, b := true, go := goes x t }
  | [] => match s.l with
    | x :: l => { s with l := l, b := true, go := goes x t }
    | [] => s
/-- What is going has gone. -/
def QS.step (s : QS) : QS := QS.next { s with b := false, out := s.out ++ [s.go] } s.go.e
def QS.wt (s : QS) : Nat := s.h.length + s.l.length + (if s.b = true then 1 else 0)
theorem QS.step_wt {s : QS} (h : s.b = true) : s.step.wt < s.wt := by
  obtain ⟨hh, l, b, go, out⟩ := s
  subst h
  cases hh with
  | cons x hh => simp [QS.step, QS.next, QS.wt] <;> omega
  | nil =>
    cases l with
    | cons x l => simp [QS.step, QS.next, QS.wt]
    | nil => simp [QS.step, QS.next, QS.wt]
/-- Time goes on to a tick. -/
def QS.run (s : QS) (now : Int) : QS := if h : s.b = true ∧ s.go.e ≤ now then QS.run s.step now else s
termination_by s.wt
decreasing_by exact QS.step_wt h.1
theorem QS.run_a {s : QS} {now : Int} (h : s.b = true ∧ s.go.e ≤ now) : s.run now = s.step.run now := by rw [QS.run, dif_pos h]
theorem QS.run_b {s : QS} {now : Int} (h : ¬ (s.b = true ∧ s.go.e ≤ now)) : s.run now = s := by rw [QS.run, dif_neg h]
theorem QS.run_ind {p : QS → Prop} {now : Int} (step : ∀ s : QS, s.b = true → s.go.e ≤ now → p s → p s.step) : ∀ s : QS, p s → p (s.run now) ∧ ((s.run now).b = true → now < (s.run now).go.e) := by
  intro s
  generalize hn : s.wt = n
  induction n using Nat.strongRecOn generalizing s with
  | _ n ih =>
    intro hp
    by_cases h : s.b = true ∧ s.go.e ≤ now
    · rw [QS.run_a h]
      exact ih _ (by rw [← hn]; exact QS.step_wt h.1) s.step rfl (step s h.1 h.2 hp)
    · rw [QS.run_b h]
      refine ⟨hp, fun hb => ?_⟩
      rcases Int.lt_or_le now s.go.e with h' | h'
      · exact h'
      · exact absurd ⟨hb, h'⟩ h



def encW (x : Wt) : List Value := [.int .i64 x.id, .string x.tx]
theorem encW_len (x : Wt) : (encW x).length = 2 := rfl
abbrev flatW (q : List Wt) : List Value := q.flatMap encW
theorem flatW_len (q : List Wt) : (flatW q).length = q.length * 2 := flat_len encW_len q
theorem flatW_snoc (q : List Wt) (x : Wt) : flatW q ++ encW x = flatW (q ++ [x]) := by simp [flatW]
abbrev Hd := Option Addr × Nat
def outC (s : QS) (x : Hd × Hd × Hd) (m0 m1 d0 d1 now : Int) : List Value := [.slice x.1.1 s.h.length x.1.2, .slice x.2.1.1 s.l.length x.2.1.2, .int .i64 m0, .int .i64 m1, .int .i64 d0, .int .i64 d1, .bool s.b, .int .i64 s.go.id, .string s.go.tx, .int .i64 s.go.b, .int .i64 s.go.e, .slice x.2.2.1 s.out.length x.2.2.2, .int .i64 now]


/-- A wire at p: what waits and goes and has gone, how many may wait, how many were dropped, its tick. -/
def OutP (p : Nat) (s : QS) (m0 m1 d0 d1 now : Int) : HProp := ex fun x : Hd × Hd × Hd => (sep (cel p [.slice x.1.1 s.h.length x.1.2, .slice x.2.1.1 s.l.length x.2.1.2, .int .i64 m0, .int .i64 m1, .int .i64 d0, .int .i64 d1, .bool s.b, .int .i64 s.go.id, .string s.go.tx, .int .i64 s.go.b, .int .i64 s.go.e, .slice x.2.2.1 s.out.length x.2.2.2, .int .i64 now] 87) (sep (Own 90 2 (.slice x.1.1 s.h.length x.1.2) s.h.length (flatW s.h)) (sep (Own 90 2 (.slice x.2.1.1 s.l.length x.2.1.2) s.l.length (flatW s.l)) (Own 30 4 (.slice x.2.2.1 s.out.length x.2.2.2) s.out.length (flat s.out)))))
theorem OutP.fold {p : Nat} {s : QS} {m0 m1 d0 d1 now : Int} {F : HProp} (x : Hd × Hd × Hd) : Ent (sep (cel p [.slice x.1.1 s.h.length x.1.2, .slice x.2.1.1 s.l.length x.2.1.2, .int .i64 m0, .int .i64 m1, .int .i64 d0, .int .i64 d1, .bool s.b, .int .i64 s.go.id, .string s.go.tx, .int .i64 s.go.b, .int .i64 s.go.e, .slice x.2.2.1 s.out.length x.2.2.2, .int .i64 now] 87) (sep (Own 90 2 (.slice x.1.1 s.h.length x.1.2) s.h.length (flatW s.h)) (sep (Own 90 2 (.slice x.2.1.1 s.l.length x.2.1.2) s.l.length (flatW s.l)) (sep (Own 30 4 (.slice x.2.2.1 s.out.length x.2.2.2) s.out.length (flat s.out)) (F))))) (sep (OutP p s m0 m1 d0 d1 now) (F)) := by
  refine Ent.trans (Ent.of ?_) (Ent.ex (f := fun x : Hd × Hd × Hd => (sep (cel p [.slice x.1.1 s.h.length x.1.2, .slice x.2.1.1 s.l.length x.2.1.2, .int .i64 m0, .int .i64 m1, .int .i64 d0, .int .i64 d1, .bool s.b, .int .i64 s.go.id, .string s.go.tx, .int .i64 s.go.b, .int .i64 s.go.e, .slice x.2.2.1 s.out.length x.2.2.2, .int .i64 now] 87) (sep (Own 90 2 (.slice x.1.1 s.h.length x.1.2) s.h.length (flatW s.h)) (sep (Own 90 2 (.slice x.2.1.1 s.l.length x.2.1.2) s.l.length (flatW s.l)) (Own 30 4 (.slice x.2.2.1 s.out.length x.2.2.2) s.out.length (flat s.out)))))) x)
  simp only [sep_assoc]
def QS.ok (s : QS) : Prop := (∀ w, w ∈ s.h ∨ w ∈ s.l → w.tx.size ≤ 1518) ∧ 0 ≤ s.go.e
theorem QS.ok_step {s : QS} (h : s.ok) : s.step.ok := by
  obtain ⟨hh, l, b, go, out⟩ := s
  obtain ⟨h1, h2⟩ := h
  cases hh with
  | cons x hh => exact ⟨fun w hw => h1 w (hw.imp_left (List.mem_cons_of_mem _)), by show 0 ≤ go.e + ((x.tx.size : Int) + 20); dsimp only at h2; omega⟩
  | nil =>
    cases l with
    | cons x l => exact ⟨fun w hw => h1 w (hw.imp_right (List.mem_cons_of_mem _)), by show 0 ≤ go.e + ((x.tx.size : Int) + 20); dsimp only at h2; omega⟩
    | nil => exact ⟨h1, h2⟩
theorem QS.ok_run {s : QS} {now : Int} (h : s.ok) : (s.run now).ok := (QS.run_ind (p := QS.ok) (fun _ _ _ h => QS.ok_step h) s h).1

theorem may_spec (n : Int) : FSpec Try.prog 46 #[.int .i64 n] (emp) (fun _ : Unit => True) (fun _ => .bool (decide (1 ≤ n ∧ n ≤ 1024))) (fun _ => emp) := by
  refine FSpec.enter' Try.func46 rfl Try.ntmps46 rfl fun σ F => ?_
  refine J_seq ?_
  refine J_region ?_
  refine L_v (opv_assign rfl) rfl ?_
  refine L_nil ?_
  refine K_then ?_
  refine J_seq ?_
  refine J_region ?_
  refine L_v (opv_move rfl) rfl ?_
  refine L_v (opv_geq rfl rfl) rfl ?_
  refine L_v (opv_move rfl) rfl ?_
  refine L_gt rfl rfl (fun h1 => ?_) (fun h1 => ?_) (fun _ h => by cases h; rfl)
  · refine L_v (opv_move rfl) rfl ?_
    refine L_gt_on h1 rfl rfl ?_
    refine L_v (opv_leq rfl rfl) rfl ?_
    refine L_v (opv_pick_t rfl h1 rfl) rfl ?_
    refine L_v (opv_assign rfl) rfl ?_
    refine L_nil ?_
    refine K_then ?_
    refine J_ret ?_
    exact K_ret1 rfl rfl () trivial (congrArg Value.bool (by first | (exact (decide_eq_true (by omega)).symm) | (exact (decide_eq_false (by omega)).symm) | exact decide_eq_decide.2 (by omega))) (Ent.refl _)
  · refine L_gt_off h1 rfl rfl ?_ (fun _ h => by cases h; rfl)
    refine L_v (opv_pick_f rfl h1 rfl) rfl ?_
    refine L_v (opv_assign rfl) rfl ?_
    refine L_nil ?_
    refine K_then ?_
    refine J_ret ?_
    exact K_ret1 rfl rfl () trivial (congrArg Value.bool (by first | (exact (decide_eq_true (by omega)).symm) | (exact (decide_eq_false (by omega)).symm) | exact decide_eq_decide.2 (by omega))) (Ent.refl _)

theorem kind_true  : FSpec Try.prog 51 #[.bool true] (emp) (fun _ : Unit => True) (fun _ => .int .i64 0) (fun _ => emp) := by
  refine FSpec.enter' Try.func51 rfl Try.ntmps51 rfl fun σ F => ?_
  refine J_seq ?_
  refine J_region ?_
  refine L_v (opv_assign rfl) rfl ?_
  refine L_nil ?_
  refine K_then ?_
  refine J_seq ?_
  refine J_seq ?_
  refine J_region ?_
  refine L_v (opv_move rfl) rfl ?_
  refine L_nil ?_
  refine K_then ?_
  refine J_cond_true rfl ?_
  refine J_seq ?_
  refine J_region ?_
  refine L_v (opv_assign rfl) rfl ?_
  refine L_nil ?_
  refine K_then ?_
  refine J_ret ?_
  refine K_then_ret ?_
  exact K_ret1 rfl rfl () trivial (rfl) (Ent.refl _)

theorem kind_false  : FSpec Try.prog 51 #[.bool false] (emp) (fun _ : Unit => True) (fun _ => .int .i64 1) (fun _ => emp) := by
  refine FSpec.enter' Try.func51 rfl Try.ntmps51 rfl fun σ F => ?_
  refine J_seq ?_
  refine J_region ?_
  refine L_v (opv_assign rfl) rfl ?_
  refine L_nil ?_
  refine K_then ?_
  refine J_seq ?_
  refine J_seq ?_
  refine J_region ?_
  refine L_v (opv_move rfl) rfl ?_
  refine L_nil ?_
  refine K_then ?_
  refine J_cond_false rfl ?_
  refine J_skip ?_
  refine K_then ?_
  refine J_seq ?_
  refine J_region ?_
  refine L_v (opv_assign rfl) rfl ?_
  refine L_nil ?_
  refine K_then ?_
  refine J_ret ?_
  exact K_ret1 rfl rfl () trivial (rfl) (Ent.refl _)

theorem qtimely_nil (t : Int) : FSpec Try.prog 47 #[.pointer none, .int .i64 t] (emp) (fun _ : Unit => True) (fun _ => .int .i64 2) (fun _ => emp) := by
  refine FSpec.enter' Try.func47 rfl Try.ntmps47 rfl fun σ F => ?_
  refine J_seq ?_
  refine J_region ?_
  refine L_v (opv_assign rfl) rfl ?_
  refine L_nil ?_
  refine K_then ?_
  refine J_seq ?_
  refine J_block ?_
  refine J_seq ?_
  refine J_region ?_
  refine L_v (opv_move rfl) rfl ?_
  first
    | refine L_v (opv_eql rfl rfl) rfl ?_
    | refine L_v (opv_eqlS rfl rfl) rfl ?_
    | refine L_v (opv_eqlNil rfl rfl) rfl ?_
    | refine L_v (opv_eqlB rfl rfl) rfl ?_
  refine L_v (opv_assign rfl) rfl ?_
  refine L_nil ?_
  refine K_then ?_
  refine J_cond_true rfl ?_
  refine J_seq ?_
  refine J_region ?_
  refine L_v (opv_assign rfl) rfl ?_
  refine L_nil ?_
  refine K_then ?_
  refine J_ret ?_
  refine K_block_ret ?_
  refine K_then_ret ?_
  exact K_ret1 rfl rfl () trivial (rfl) (Ent.refl _)

theorem qtimely_cel (p : Nat) (c0 c1 c2 c3 c4 c5 c6 c7 c8 c9 c10 c11 : Value) (cur t : Int) : FSpec Try.prog 47 #[.pointer (some (ad p 0)), .int .i64 t] (cel p [c0, c1, c2, c3, c4, c5, c6, c7, c8, c9, c10, c11, .int .i64 cur] 87) (fun _ : Unit => True) (fun _ => .int .i64 (tim cur t)) (fun _ => cel p [c0, c1, c2, c3, c4, c5, c6, c7, c8, c9, c10, c11, .int .i64 cur] 87) := by
  refine FSpec.enter' Try.func47 rfl Try.ntmps47 rfl fun σ F => ?_
  refine J_seq ?_
  refine J_region ?_
  refine L_v (opv_assign rfl) rfl ?_
  refine L_nil ?_
  refine K_then ?_
  refine J_seq ?_
  refine J_block ?_
  refine J_seq ?_
  refine J_region ?_
  refine L_v (opv_move rfl) rfl ?_
  first
    | refine L_v (opv_eql rfl rfl) rfl ?_
    | refine L_v (opv_eqlS rfl rfl) rfl ?_
    | refine L_v (opv_eqlNil rfl rfl) rfl ?_
    | refine L_v (opv_eqlB rfl rfl) rfl ?_
  refine L_v (opv_assign rfl) rfl ?_
  refine L_nil ?_
  refine K_then ?_
  refine J_cond_false rfl ?_
  refine J_seq ?_
  refine J_region ?_
  refine L_v (opv_move rfl) rfl ?_
  refine L_v (opv_lss rfl rfl) rfl ?_
  refine L_v (opv_move rfl) rfl ?_
  refine L_gf rfl rfl (fun h1 => ?_) (fun h1 => ?_) (fun _ h => by cases h; rfl)
  · refine L_v (opv_move rfl) rfl ?_
    refine L_gf_on h1 rfl rfl ?_
    refine L_v (opv_gtr rfl rfl) rfl ?_
    refine L_v (opv_pick_f rfl h1 rfl) rfl ?_
    refine L_v (opv_assign rfl) rfl ?_
    refine L_nil ?_
    refine K_then ?_
    refine J_cond rfl (fun h2 => ?_) (fun h2 => ?_)
    · refine J_seq ?_
      refine J_region ?_
      refine L_v (opv_assign rfl) rfl ?_
      refine L_nil ?_
      refine K_then ?_
      refine J_ret ?_
      refine K_block_ret ?_
      refine K_then_ret ?_
      exact K_ret1 rfl rfl () trivial (rv (by first | exact (tim_a (by omega)).symm | exact (tim_b (by omega) (by omega) (by omega)).symm | exact (tim_c (by omega) (by omega) (by omega)).symm)) (Ent.refl _)
    · refine J_seq ?_
      refine J_region ?_
      refine L_v (opv_move rfl) rfl ?_
      refine L_v (opv_move rfl) rfl ?_
      refine L_v (opv_nilCheck rfl) rfl ?_
      first
        | refine L_v (opv_fieldAddr0 rfl) rfl ?_
        | refine L_v (opv_fieldAddr rfl) rfl ?_
      refine L_v (opv_load rfl (Rd.look rfl)) rfl ?_
      refine L_v (opv_lss rfl rfl) rfl ?_
      refine L_v (opv_assign rfl) rfl ?_
      refine L_nil ?_
      refine K_then ?_
      refine J_cond rfl (fun h3 => ?_) (fun h3 => ?_)
      · refine J_seq ?_
        refine J_region ?_
        refine L_v (opv_assign rfl) rfl ?_
        refine L_nil ?_
        refine K_then ?_
        refine J_ret ?_
        refine K_block_ret ?_
        refine K_then_ret ?_
        exact K_ret1 rfl rfl () trivial (rv (by first | exact (tim_a (by omega)).symm | exact (tim_b (by omega) (by omega) (by omega)).symm | exact (tim_c (by omega) (by omega) (by omega)).symm)) (Ent.refl _)
      · refine J_skip ?_
        refine K_block ?_
        refine K_then ?_
        refine J_seq ?_
        refine J_region ?_
        refine L_v (opv_assign rfl) rfl ?_
        refine L_nil ?_
        refine K_then ?_
        refine J_ret ?_
        exact K_ret1 rfl rfl () trivial (rv (by first | exact (tim_a (by omega)).symm | exact (tim_b (by omega) (by omega) (by omega)).symm | exact (tim_c (by omega) (by omega) (by omega)).symm)) (Ent.refl _)
  · refine L_gf_off h1 rfl rfl ?_ (fun _ h => by cases h; rfl)
    refine L_v (opv_pick_t rfl h1 rfl) rfl ?_
    refine L_v (opv_assign rfl) rfl ?_
    refine L_nil ?_
    refine K_then ?_
    refine J_cond_true rfl ?_
    refine J_seq ?_
    refine J_region ?_
    refine L_v (opv_assign rfl) rfl ?_
    refine L_nil ?_
    refine K_then ?_
    refine J_ret ?_
    refine K_block_ret ?_
    refine K_then_ret ?_
    exact K_ret1 rfl rfl () trivial (rv (by first | exact (tim_a (by omega)).symm | exact (tim_b (by omega) (by omega) (by omega)).symm | exact (tim_c (by omega) (by omega) (by omega)).symm)) (Ent.refl _)

theorem begin_spec (p : Nat) (c0 c1 c2 c3 c4 c5 c11 c12 : Value) (b : Bool) (g : Sn) (t : Int) (w : Wt) (ht : 0 ≤ t ∧ t ≤ 2000000000000000000) (hw : w.tx.size ≤ 1518) : FSpec Try.prog 52 #[.pointer (some (ad p 0)), .int .i64 t, .agg (encW w).toArray] (cel p [c0, c1, c2, c3, c4, c5, .bool b, .int .i64 g.id, .string g.tx, .int .i64 g.b, .int .i64 g.e, c11, c12] 87) (fun _ : Unit => True) (fun _ => .tuple #[]) (fun _ => cel p [c0, c1, c2, c3, c4, c5, .bool true, .int .i64 w.id, .string w.tx, .int .i64 t, .int .i64 (t + ((w.tx.size : Int) + 20)), c11, c12] 87) := by
  refine FSpec.enter' Try.func52 rfl Try.ntmps52 rfl fun σ F => ?_
  refine J_seq ?_
  refine J_region ?_
  refine L_x rfl (opx_box (l := [.int .i64 w.id, .string w.tx]) rfl rfl) (fun b5 _ => ?_)
  refine L_nil ?_
  refine K_then ?_
  refine J_seq ?_
  refine J_region ?_
  refine L_v (opv_move rfl) rfl ?_
  refine L_v (opv_nilCheck rfl) rfl ?_
  first
    | refine L_v (opv_fieldAddr0 rfl) rfl ?_
    | refine L_v (opv_fieldAddr rfl) rfl ?_
  refine L_x rfl (opx_store rfl rfl rfl (by simp [Value.oneCell'])) (fun _ _ => ?_)
  refine L_nil ?_
  refine K_then ?_
  refine J_steps (cel b5 [.int .i64 w.id, .string w.tx] 90) (cel b5 [.int .i64 w.id, .string w.tx] 90) [] Try.mixed ?_
  refine R_pure 0 rfl (by kernel_rfl) (by kernel_rfl) (by kernel_rfl) (by kernel_rfl) (.inr ⟨_, Take.eq (A := cel b5 [.int .i64 w.id, .string w.tx] 90)⟩) (opv_move rfl) rfl ?_
  first
    | refine R_pure 1 rfl (by kernel_rfl) (by kernel_rfl) (by kernel_rfl) (by kernel_rfl) (.inr ⟨_, Take.eq (A := cel b5 [.int .i64 w.id, .string w.tx] 90)⟩) (opv_fieldAddr0 rfl) rfl ?_
    | refine R_pure 1 rfl (by kernel_rfl) (by kernel_rfl) (by kernel_rfl) (by kernel_rfl) (.inr ⟨_, Take.eq (A := cel b5 [.int .i64 w.id, .string w.tx] 90)⟩) (opv_fieldAddr rfl) rfl ?_
  refine R_take 2 rfl (by kernel_rfl) (by kernel_rfl) (by kernel_rfl) (by kernel_rfl) (by kernel_rfl) (opv_load rfl (Rd.look rfl)) rfl ?_
  first
    | refine R_pure 3 rfl (by kernel_rfl) (by kernel_rfl) (by kernel_rfl) (by kernel_rfl) (.inr ⟨_, Take.eq (A := cel b5 [.int .i64 w.id, .string w.tx] 90)⟩) (opv_fieldAddr0 rfl) rfl ?_
    | refine R_pure 3 rfl (by kernel_rfl) (by kernel_rfl) (by kernel_rfl) (by kernel_rfl) (.inr ⟨_, Take.eq (A := cel b5 [.int .i64 w.id, .string w.tx] 90)⟩) (opv_fieldAddr rfl) rfl ?_
  refine R_take 4 rfl (by kernel_rfl) (by kernel_rfl) (by kernel_rfl) (by kernel_rfl) (by kernel_rfl) (opv_load rfl (Rd.look rfl)) rfl ?_
  refine R_pure 5 rfl (by kernel_rfl) (by kernel_rfl) (by kernel_rfl) (by kernel_rfl) (.inr ⟨_, Take.eq (A := cel b5 [.int .i64 w.id, .string w.tx] 90)⟩) (opv_move rfl) rfl ?_
  refine R_pure 6 rfl (by kernel_rfl) (by kernel_rfl) (by kernel_rfl) (by kernel_rfl) (.inr ⟨_, Take.eq (A := cel b5 [.int .i64 w.id, .string w.tx] 90)⟩) (opv_move rfl) rfl ?_
  first
    | refine R_pure 7 rfl (by kernel_rfl) (by kernel_rfl) (by kernel_rfl) (by kernel_rfl) (.inr ⟨_, Take.eq (A := cel b5 [.int .i64 w.id, .string w.tx] 90)⟩) (opv_fieldAddr0 rfl) rfl ?_
    | refine R_pure 7 rfl (by kernel_rfl) (by kernel_rfl) (by kernel_rfl) (by kernel_rfl) (.inr ⟨_, Take.eq (A := cel b5 [.int .i64 w.id, .string w.tx] 90)⟩) (opv_fieldAddr rfl) rfl ?_
  refine R_take 8 rfl (by kernel_rfl) (by kernel_rfl) (by kernel_rfl) (by kernel_rfl) (by kernel_rfl) (opv_load rfl (Rd.look rfl)) rfl ?_
  first
    | refine R_pure 9 rfl (by kernel_rfl) (by kernel_rfl) (by kernel_rfl) (by kernel_rfl) (.inr ⟨_, Take.eq (A := cel b5 [.int .i64 w.id, .string w.tx] 90)⟩) (opv_lenL rfl) rfl ?_
    | refine R_pure 9 rfl (by kernel_rfl) (by kernel_rfl) (by kernel_rfl) (by kernel_rfl) (.inr ⟨_, Take.eq (A := cel b5 [.int .i64 w.id, .string w.tx] 90)⟩) (opv_lenS rfl) rfl ?_
  refine R_only 10 rfl rfl (by kernel_rfl) (opx_call0 (Ticks_spec (w.tx.size : Int) (by omega)) rfl rfl rfl) (fun _ _ => ⟨_, Take.eq (A := cel b5 [.int .i64 w.id, .string w.tx] 90)⟩) (.inr fun _ _ => ⟨_, Take.eq (A := cel b5 [.int .i64 w.id, .string w.tx] 90)⟩) (fun _ _ => ?_)
  refine Rg_emp ?_
  first
    | refine R_pure 11 rfl (by kernel_rfl) (by kernel_rfl) (by kernel_rfl) (by kernel_rfl) (.inr ⟨_, Take.eq (A := cel b5 [.int .i64 w.id, .string w.tx] 90)⟩) (opv_add64 rfl rfl (by omega)) rfl ?_
    | refine R_pure 11 rfl (by kernel_rfl) (by kernel_rfl) (by kernel_rfl) (by kernel_rfl) (.inr ⟨_, Take.eq (A := cel b5 [.int .i64 w.id, .string w.tx] 90)⟩) (opv_addS rfl rfl (by omega)) rfl ?_
    | refine R_pure 11 rfl (by kernel_rfl) (by kernel_rfl) (by kernel_rfl) (by kernel_rfl) (.inr ⟨_, Take.eq (A := cel b5 [.int .i64 w.id, .string w.tx] 90)⟩) (opv_add rfl rfl) rfl ?_
  refine R_pure 12 rfl (by kernel_rfl) (by kernel_rfl) (by kernel_rfl) (by kernel_rfl) (.inr ⟨_, Take.eq (A := cel b5 [.int .i64 w.id, .string w.tx] 90)⟩) (opv_build rfl) rfl ?_
  refine R_pure 13 rfl (by kernel_rfl) (by kernel_rfl) (by kernel_rfl) (by kernel_rfl) (.inr ⟨_, Take.eq (A := cel b5 [.int .i64 w.id, .string w.tx] 90)⟩) (opv_nilCheck rfl) rfl ?_
  first
    | refine R_pure 14 rfl (by kernel_rfl) (by kernel_rfl) (by kernel_rfl) (by kernel_rfl) (.inr ⟨_, Take.eq (A := cel b5 [.int .i64 w.id, .string w.tx] 90)⟩) (opv_fieldAddr0 rfl) rfl ?_
    | refine R_pure 14 rfl (by kernel_rfl) (by kernel_rfl) (by kernel_rfl) (by kernel_rfl) (.inr ⟨_, Take.eq (A := cel b5 [.int .i64 w.id, .string w.tx] 90)⟩) (opv_fieldAddr rfl) rfl ?_
  refine R_only 15 rfl rfl (by kernel_rfl) (opx_store rfl rfl rfl (by simp [Value.oneCell'])) (fun _ _ => ⟨_, Take.eq (A := cel b5 [.int .i64 w.id, .string w.tx] 90)⟩) (.inr fun _ _ => ⟨_, Take.eq (A := cel b5 [.int .i64 w.id, .string w.tx] 90)⟩) (fun _ _ => ?_)
  refine R_done (by kernel_rfl) ?_
  exact K_end0 rfl () trivial rfl Ent.take

theorem cut_w (b n m c : Nat) (h : n + 1 ≤ c) : cutV (some (ad b m)) (Int.toNat 1) (n + 1) c 2 = .slice (some (ad b (if c = 1 then m else m + 1 * 2))) n (c - 1) := by
  rw [show Int.toNat 1 = 1 from rfl, cutV_at, show n + 1 - 1 = n by omega]

theorem next_0 (p : Nat) (c1 c2 c3 c4 c5 c11 c12 : Value) (g : Sn) (t : Int) (ht : 0 ≤ t ∧ t ≤ 2000000000000000000) (b cap : Nat) (pre post : List Value) (w : Wt) (q : List Wt) (hw : w.tx.size ≤ 1518) (hc : q.length + 1 ≤ cap) : FSpec Try.prog 54 #[.pointer (some (ad p 0)), .int .i64 t] ((sep (cel p [.slice (some (ad b pre.length)) (q.length + 1) cap, c1, c2, c3, c4, c5, .bool false, .int .i64 g.id, .string g.tx, .int .i64 g.b, .int .i64 g.e, c11, c12] 87) (cel b (pre ++ flatW (w :: q) ++ post) 90))) (fun _ : Unit => True) (fun _ => .tuple #[]) (fun _ => (sep (cel p [.slice (some (ad b (if cap = 1 then pre.length else pre.length + 1 * 2))) q.length (cap - 1), c1, c2, c3, c4, c5, .bool true, .int .i64 w.id, .string w.tx, .int .i64 t, .int .i64 (t + ((w.tx.size : Int) + 20)), c11, c12] 87) (cel b (pre ++ flatW (w :: q) ++ post) 90))) := by
  refine FSpec.enter' Try.func54 rfl Try.ntmps54 rfl fun σ F => ?_
  refine J_seq ?_
  refine J_region ?_
  refine L_v (opv_move rfl) rfl ?_
  refine L_nil ?_
  refine K_then ?_
  refine J_block ?_
  refine J_loop (X := Nat) (fun k => [(0, .pointer (some (ad p 0))), (1, .int .i64 t), (6, .int .i64 k)]) (fun k => (sep (cel p [.slice (some (ad b pre.length)) (q.length + 1) cap, c1, c2, c3, c4, c5, .bool false, .int .i64 g.id, .string g.tx, .int .i64 g.b, .int .i64 g.e, c11, c12] 87) (sep (cel b (pre ++ flatW (w :: q) ++ post) 90) (F)))) (fun k => k < 1) (fun k => 1 - k) (0) (by decide) ⟨rfl, rfl, rfl, trivial⟩ Ent.takes (fun k hk => ?_)
  rcases (show k = 0 by omega) with rfl
  · refine J_seq ?_
    refine J_region ?_
    refine L_v (opv_lss rfl rfl) rfl ?_
    refine L_nil ?_
    refine K_then ?_
    refine J_seq ?_
    refine J_cond rfl (fun h1 => ?_) (fun h1 => absurd (by decide) h1)
    refine J_skip ?_
    refine K_then ?_
    refine J_seq ?_
    refine J_block ?_
    refine J_seq ?_
    refine J_region ?_
    refine L_v (opv_move rfl) rfl ?_
    refine L_v (opv_assign rfl) rfl ?_
    refine L_nil ?_
    refine K_then ?_
    refine J_seq ?_
    refine J_region ?_
    refine L_v (opv_move rfl) rfl ?_
    refine L_v (opv_move rfl) rfl ?_
    refine L_v (opv_nilCheck rfl) rfl ?_
    first
      | refine L_v (opv_fieldAddr0 rfl) rfl ?_
      | refine L_v (opv_fieldAddr rfl) rfl ?_
    first
      | refine L_v (opv_indexAddr rfl rfl (by omega)) rfl ?_
      | refine L_v (opv_indexAddrA rfl rfl (by omega)) rfl ?_
    refine L_v (opv_load rfl (Rd.look rfl)) rfl ?_
    refine L_v (opv_assign rfl) rfl ?_
    refine L_nil ?_
    refine K_then ?_
    refine J_seq ?_
    refine J_region ?_
    refine L_v (opv_move rfl) rfl ?_
    first
      | refine L_v (opv_lenL rfl) rfl ?_
      | refine L_v (opv_lenS rfl) rfl ?_
    refine L_v (opv_gtr rfl rfl) rfl ?_
    refine L_nil ?_
    refine K_then ?_
    refine J_cond rfl (fun h2 => ?_) (fun h2 => by exfalso; omega)
    refine J_seq ?_
    refine J_steps (emp) (emp) [] Try.mixed ?_
    refine R_pure 0 rfl (by kernel_rfl) (by kernel_rfl) (by kernel_rfl) (by kernel_rfl) (.inr ⟨_, Take.eq (A := emp)⟩) (opv_move rfl) rfl ?_
    refine R_pure 1 rfl (by kernel_rfl) (by kernel_rfl) (by kernel_rfl) (by kernel_rfl) (.inr ⟨_, Take.eq (A := emp)⟩) (opv_move rfl) rfl ?_
    refine R_pure 2 rfl (by kernel_rfl) (by kernel_rfl) (by kernel_rfl) (by kernel_rfl) (.inr ⟨_, Take.eq (A := emp)⟩) (opv_move rfl) rfl ?_
    refine R_pure 3 rfl (by kernel_rfl) (by kernel_rfl) (by kernel_rfl) (by kernel_rfl) (.inr ⟨_, Take.eq (A := emp)⟩) ((opv_sliceLlo rfl rfl (by omega)).as (v' := .slice (some (ad b (if cap = 1 then pre.length else pre.length + 1 * 2))) q.length (cap - 1)) (cut_w _ _ _ _ (by omega))) rfl ?_
    refine R_pure 4 rfl (by kernel_rfl) (by kernel_rfl) (by kernel_rfl) (by kernel_rfl) (.inr ⟨_, Take.eq (A := emp)⟩) (opv_nilCheck rfl) rfl ?_
    first
      | refine R_pure 5 rfl (by kernel_rfl) (by kernel_rfl) (by kernel_rfl) (by kernel_rfl) (.inr ⟨_, Take.eq (A := emp)⟩) (opv_fieldAddr0 rfl) rfl ?_
      | refine R_pure 5 rfl (by kernel_rfl) (by kernel_rfl) (by kernel_rfl) (by kernel_rfl) (.inr ⟨_, Take.eq (A := emp)⟩) (opv_fieldAddr rfl) rfl ?_
    refine R_pure 6 rfl (by kernel_rfl) (by kernel_rfl) (by kernel_rfl) (by kernel_rfl) (.inr ⟨_, Take.eq (A := emp)⟩) ((opv_indexAddrA rfl rfl (by omega)).as (v' := .pointer (some (ad p 0))) rfl) rfl ?_
    refine R_only 7 rfl rfl (by kernel_rfl) (opx_store rfl rfl rfl (by simp [Value.oneCell'])) (fun _ _ => ⟨_, Take.eq (A := emp)⟩) (.inr fun _ _ => ⟨_, Take.eq (A := emp)⟩) (fun _ _ => ?_)
    refine R_done (by kernel_rfl) ?_
    refine K_then ?_
    refine J_seq ?_
    refine J_region ?_
    refine L_v (opv_move rfl) rfl ?_
    refine L_v (opv_move rfl) rfl ?_
    refine L_v (opv_move rfl) rfl ?_
    first
      | refine L_v (opv_indexAddr rfl rfl (by omega)) rfl ?_
      | refine L_v (opv_indexAddrA rfl rfl (by omega)) rfl ?_
    refine L_v (opv_loadN (vs := encW w) rfl rfl (fun j u hj => Rd.elem encW_len (q := w :: q) (i := 0) rfl hj)) rfl ?_
    refine L_x rfl (opx_call0 (begin_spec p (.slice (some (ad b (if cap = 1 then pre.length else pre.length + 1 * 2))) q.length (cap - 1)) (c1) (c2) (c3) (c4) (c5) (c11) (c12) false g t w ht hw) rfl rfl rfl) (fun _ _ => ?_)
    refine L_nil ?_
    refine K_then ?_
    refine J_ret ?_
    refine K_block_ret ?_
    refine K_then_ret ?_
    refine K_then_ret ?_
    refine K_block_ret ?_
    exact K_ret0 rfl () trivial rfl Ent.take

theorem next_1 (p : Nat) (c2 c3 c4 c5 c11 c12 : Value) (a0 : Option Addr) (k0 : Nat) (g : Sn) (t : Int) (ht : 0 ≤ t ∧ t ≤ 2000000000000000000) (b cap : Nat) (pre post : List Value) (w : Wt) (q : List Wt) (hw : w.tx.size ≤ 1518) (hc : q.length + 1 ≤ cap) : FSpec Try.prog 54 #[.pointer (some (ad p 0)), .int .i64 t] ((sep (cel p [.slice a0 0 k0, .slice (some (ad b pre.length)) (q.length + 1) cap, c2, c3, c4, c5, .bool false, .int .i64 g.id, .string g.tx, .int .i64 g.b, .int .i64 g.e, c11, c12] 87) (cel b (pre ++ flatW (w :: q) ++ post) 90))) (fun _ : Unit => True) (fun _ => .tuple #[]) (fun _ => (sep (cel p [.slice a0 0 k0, .slice (some (ad b (if cap = 1 then pre.length else pre.length + 1 * 2))) q.length (cap - 1), c2, c3, c4, c5, .bool true, .int .i64 w.id, .string w.tx, .int .i64 t, .int .i64 (t + ((w.tx.size : Int) + 20)), c11, c12] 87) (cel b (pre ++ flatW (w :: q) ++ post) 90))) := by
  refine FSpec.enter' Try.func54 rfl Try.ntmps54 rfl fun σ F => ?_
  refine J_seq ?_
  refine J_region ?_
  refine L_v (opv_move rfl) rfl ?_
  refine L_nil ?_
  refine K_then ?_
  refine J_block ?_
  refine J_loop (X := Nat) (fun k => [(0, .pointer (some (ad p 0))), (1, .int .i64 t), (6, .int .i64 k)]) (fun k => (sep (cel p [.slice a0 0 k0, .slice (some (ad b pre.length)) (q.length + 1) cap, c2, c3, c4, c5, .bool false, .int .i64 g.id, .string g.tx, .int .i64 g.b, .int .i64 g.e, c11, c12] 87) (sep (cel b (pre ++ flatW (w :: q) ++ post) 90) (F)))) (fun k => k < 2) (fun k => 2 - k) (0) (by decide) ⟨rfl, rfl, rfl, trivial⟩ Ent.takes (fun k hk => ?_)
  rcases (show k = 0 ∨ k = 1 by omega) with rfl | rfl
  · refine J_seq ?_
    refine J_region ?_
    refine L_v (opv_lss rfl rfl) rfl ?_
    refine L_nil ?_
    refine K_then ?_
    refine J_seq ?_
    refine J_cond rfl (fun h1 => ?_) (fun h1 => absurd (by decide) h1)
    refine J_skip ?_
    refine K_then ?_
    refine J_seq ?_
    refine J_block ?_
    refine J_seq ?_
    refine J_region ?_
    refine L_v (opv_move rfl) rfl ?_
    refine L_v (opv_assign rfl) rfl ?_
    refine L_nil ?_
    refine K_then ?_
    refine J_seq ?_
    refine J_region ?_
    refine L_v (opv_move rfl) rfl ?_
    refine L_v (opv_move rfl) rfl ?_
    refine L_v (opv_nilCheck rfl) rfl ?_
    first
      | refine L_v (opv_fieldAddr0 rfl) rfl ?_
      | refine L_v (opv_fieldAddr rfl) rfl ?_
    first
      | refine L_v (opv_indexAddr rfl rfl (by omega)) rfl ?_
      | refine L_v (opv_indexAddrA rfl rfl (by omega)) rfl ?_
    refine L_v (opv_load rfl (Rd.look rfl)) rfl ?_
    refine L_v (opv_assign rfl) rfl ?_
    refine L_nil ?_
    refine K_then ?_
    refine J_seq ?_
    refine J_region ?_
    refine L_v (opv_move rfl) rfl ?_
    first
      | refine L_v (opv_lenL rfl) rfl ?_
      | refine L_v (opv_lenS rfl) rfl ?_
    refine L_v (opv_gtr rfl rfl) rfl ?_
    refine L_nil ?_
    refine K_then ?_
    refine J_cond rfl (fun h2 => absurd h2 (by decide)) (fun h2 => ?_)
    refine J_skip ?_
    refine K_block ?_
    refine K_then ?_
    refine J_region ?_
    first
      | refine L_v (opv_add64 rfl rfl (by omega)) rfl ?_
      | refine L_v (opv_addS rfl rfl (by omega)) rfl ?_
      | refine L_v (opv_add rfl rfl) rfl ?_
    refine L_v (opv_move rfl) rfl ?_
    refine L_nil ?_
    exact K_loop (1) (by decide) (by decide) ⟨rfl, rfl, rfl, trivial⟩ (Ent.refl _)
  · refine J_seq ?_
    refine J_region ?_
    refine L_v (opv_lss rfl rfl) rfl ?_
    refine L_nil ?_
    refine K_then ?_
    refine J_seq ?_
    refine J_cond rfl (fun h3 => ?_) (fun h3 => absurd (by decide) h3)
    refine J_skip ?_
    refine K_then ?_
    refine J_seq ?_
    refine J_block ?_
    refine J_seq ?_
    refine J_region ?_
    refine L_v (opv_move rfl) rfl ?_
    refine L_v (opv_assign rfl) rfl ?_
    refine L_nil ?_
    refine K_then ?_
    refine J_seq ?_
    refine J_region ?_
    refine L_v (opv_move rfl) rfl ?_
    refine L_v (opv_move rfl) rfl ?_
    refine L_v (opv_nilCheck rfl) rfl ?_
    first
      | refine L_v (opv_fieldAddr0 rfl) rfl ?_
      | refine L_v (opv_fieldAddr rfl) rfl ?_
    first
      | refine L_v (opv_indexAddr rfl rfl (by omega)) rfl ?_
      | refine L_v (opv_indexAddrA rfl rfl (by omega)) rfl ?_
    refine L_v (opv_load rfl (Rd.look rfl)) rfl ?_
    refine L_v (opv_assign rfl) rfl ?_
    refine L_nil ?_
    refine K_then ?_
    refine J_seq ?_
    refine J_region ?_
    refine L_v (opv_move rfl) rfl ?_
    first
      | refine L_v (opv_lenL rfl) rfl ?_
      | refine L_v (opv_lenS rfl) rfl ?_
    refine L_v (opv_gtr rfl rfl) rfl ?_
    refine L_nil ?_
    refine K_then ?_
    refine J_cond rfl (fun h4 => ?_) (fun h4 => by exfalso; omega)
    refine J_seq ?_
    refine J_steps (emp) (emp) [] Try.mixed ?_
    refine R_pure 0 rfl (by kernel_rfl) (by kernel_rfl) (by kernel_rfl) (by kernel_rfl) (.inr ⟨_, Take.eq (A := emp)⟩) (opv_move rfl) rfl ?_
    refine R_pure 1 rfl (by kernel_rfl) (by kernel_rfl) (by kernel_rfl) (by kernel_rfl) (.inr ⟨_, Take.eq (A := emp)⟩) (opv_move rfl) rfl ?_
    refine R_pure 2 rfl (by kernel_rfl) (by kernel_rfl) (by kernel_rfl) (by kernel_rfl) (.inr ⟨_, Take.eq (A := emp)⟩) (opv_move rfl) rfl ?_
    refine R_pure 3 rfl (by kernel_rfl) (by kernel_rfl) (by kernel_rfl) (by kernel_rfl) (.inr ⟨_, Take.eq (A := emp)⟩) ((opv_sliceLlo rfl rfl (by omega)).as (v' := .slice (some (ad b (if cap = 1 then pre.length else pre.length + 1 * 2))) q.length (cap - 1)) (cut_w _ _ _ _ (by omega))) rfl ?_
    refine R_pure 4 rfl (by kernel_rfl) (by kernel_rfl) (by kernel_rfl) (by kernel_rfl) (.inr ⟨_, Take.eq (A := emp)⟩) (opv_nilCheck rfl) rfl ?_
    first
      | refine R_pure 5 rfl (by kernel_rfl) (by kernel_rfl) (by kernel_rfl) (by kernel_rfl) (.inr ⟨_, Take.eq (A := emp)⟩) (opv_fieldAddr0 rfl) rfl ?_
      | refine R_pure 5 rfl (by kernel_rfl) (by kernel_rfl) (by kernel_rfl) (by kernel_rfl) (.inr ⟨_, Take.eq (A := emp)⟩) (opv_fieldAddr rfl) rfl ?_
    refine R_pure 6 rfl (by kernel_rfl) (by kernel_rfl) (by kernel_rfl) (by kernel_rfl) (.inr ⟨_, Take.eq (A := emp)⟩) ((opv_indexAddrA rfl rfl (by omega)).as (v' := .pointer (some (ad p 1))) rfl) rfl ?_
    refine R_only 7 rfl rfl (by kernel_rfl) (opx_store rfl rfl rfl (by simp [Value.oneCell'])) (fun _ _ => ⟨_, Take.eq (A := emp)⟩) (.inr fun _ _ => ⟨_, Take.eq (A := emp)⟩) (fun _ _ => ?_)
    refine R_done (by kernel_rfl) ?_
    refine K_then ?_
    refine J_seq ?_
    refine J_region ?_
    refine L_v (opv_move rfl) rfl ?_
    refine L_v (opv_move rfl) rfl ?_
    refine L_v (opv_move rfl) rfl ?_
    first
      | refine L_v (opv_indexAddr rfl rfl (by omega)) rfl ?_
      | refine L_v (opv_indexAddrA rfl rfl (by omega)) rfl ?_
    refine L_v (opv_loadN (vs := encW w) rfl rfl (fun j u hj => Rd.elem encW_len (q := w :: q) (i := 0) rfl hj)) rfl ?_
    refine L_x rfl (opx_call0 (begin_spec p (.slice a0 0 k0) (.slice (some (ad b (if cap = 1 then pre.length else pre.length + 1 * 2))) q.length (cap - 1)) (c2) (c3) (c4) (c5) (c11) (c12) false g t w ht hw) rfl rfl rfl) (fun _ _ => ?_)
    refine L_nil ?_
    refine K_then ?_
    refine J_ret ?_
    refine K_block_ret ?_
    refine K_then_ret ?_
    refine K_then_ret ?_
    refine K_block_ret ?_
    exact K_ret0 rfl () trivial rfl Ent.take

theorem next_2 (p : Nat) (c2 c3 c4 c5 c11 c12 : Value) (a0 a1 : Option Addr) (k0 k1 : Nat) (g : Sn) (t : Int) (ht : 0 ≤ t ∧ t ≤ 2000000000000000000) : FSpec Try.prog 54 #[.pointer (some (ad p 0)), .int .i64 t] (cel p [.slice a0 0 k0, .slice a1 0 k1, c2, c3, c4, c5, .bool false, .int .i64 g.id, .string g.tx, .int .i64 g.b, .int .i64 g.e, c11, c12] 87) (fun _ : Unit => True) (fun _ => .tuple #[]) (fun _ => cel p [.slice a0 0 k0, .slice a1 0 k1, c2, c3, c4, c5, .bool false, .int .i64 g.id, .string g.tx, .int .i64 g.b, .int .i64 g.e, c11, c12] 87) := by
  refine FSpec.enter' Try.func54 rfl Try.ntmps54 rfl fun σ F => ?_
  refine J_seq ?_
  refine J_region ?_
  refine L_v (opv_move rfl) rfl ?_
  refine L_nil ?_
  refine K_then ?_
  refine J_block ?_
  refine J_loop (X := Nat) (fun k => [(0, .pointer (some (ad p 0))), (1, .int .i64 t), (6, .int .i64 k)]) (fun k => (sep (cel p [.slice a0 0 k0, .slice a1 0 k1, c2, c3, c4, c5, .bool false, .int .i64 g.id, .string g.tx, .int .i64 g.b, .int .i64 g.e, c11, c12] 87) (F))) (fun k => k < 3) (fun k => 3 - k) (0) (by decide) ⟨rfl, rfl, rfl, trivial⟩ (Ent.refl _) (fun k hk => ?_)
  rcases (show k = 0 ∨ k = 1 ∨ k = 2 by omega) with rfl | rfl | rfl
  · refine J_seq ?_
    refine J_region ?_
    refine L_v (opv_lss rfl rfl) rfl ?_
    refine L_nil ?_
    refine K_then ?_
    refine J_seq ?_
    refine J_cond rfl (fun h1 => ?_) (fun h1 => absurd (by decide) h1)
    refine J_skip ?_
    refine K_then ?_
    refine J_seq ?_
    refine J_block ?_
    refine J_seq ?_
    refine J_region ?_
    refine L_v (opv_move rfl) rfl ?_
    refine L_v (opv_assign rfl) rfl ?_
    refine L_nil ?_
    refine K_then ?_
    refine J_seq ?_
    refine J_region ?_
    refine L_v (opv_move rfl) rfl ?_
    refine L_v (opv_move rfl) rfl ?_
    refine L_v (opv_nilCheck rfl) rfl ?_
    first
      | refine L_v (opv_fieldAddr0 rfl) rfl ?_
      | refine L_v (opv_fieldAddr rfl) rfl ?_
    first
      | refine L_v (opv_indexAddr rfl rfl (by omega)) rfl ?_
      | refine L_v (opv_indexAddrA rfl rfl (by omega)) rfl ?_
    refine L_v (opv_load rfl (Rd.look rfl)) rfl ?_
    refine L_v (opv_assign rfl) rfl ?_
    refine L_nil ?_
    refine K_then ?_
    refine J_seq ?_
    refine J_region ?_
    refine L_v (opv_move rfl) rfl ?_
    first
      | refine L_v (opv_lenL rfl) rfl ?_
      | refine L_v (opv_lenS rfl) rfl ?_
    refine L_v (opv_gtr rfl rfl) rfl ?_
    refine L_nil ?_
    refine K_then ?_
    refine J_cond rfl (fun h2 => absurd h2 (by decide)) (fun h2 => ?_)
    refine J_skip ?_
    refine K_block ?_
    refine K_then ?_
    refine J_region ?_
    first
      | refine L_v (opv_add64 rfl rfl (by omega)) rfl ?_
      | refine L_v (opv_addS rfl rfl (by omega)) rfl ?_
      | refine L_v (opv_add rfl rfl) rfl ?_
    refine L_v (opv_move rfl) rfl ?_
    refine L_nil ?_
    exact K_loop (1) (by decide) (by decide) ⟨rfl, rfl, rfl, trivial⟩ (Ent.refl _)
  · refine J_seq ?_
    refine J_region ?_
    refine L_v (opv_lss rfl rfl) rfl ?_
    refine L_nil ?_
    refine K_then ?_
    refine J_seq ?_
    refine J_cond rfl (fun h3 => ?_) (fun h3 => absurd (by decide) h3)
    refine J_skip ?_
    refine K_then ?_
    refine J_seq ?_
    refine J_block ?_
    refine J_seq ?_
    refine J_region ?_
    refine L_v (opv_move rfl) rfl ?_
    refine L_v (opv_assign rfl) rfl ?_
    refine L_nil ?_
    refine K_then ?_
    refine J_seq ?_
    refine J_region ?_
    refine L_v (opv_move rfl) rfl ?_
    refine L_v (opv_move rfl) rfl ?_
    refine L_v (opv_nilCheck rfl) rfl ?_
    first
      | refine L_v (opv_fieldAddr0 rfl) rfl ?_
      | refine L_v (opv_fieldAddr rfl) rfl ?_
    first
      | refine L_v (opv_indexAddr rfl rfl (by omega)) rfl ?_
      | refine L_v (opv_indexAddrA rfl rfl (by omega)) rfl ?_
    refine L_v (opv_load rfl (Rd.look rfl)) rfl ?_
    refine L_v (opv_assign rfl) rfl ?_
    refine L_nil ?_
    refine K_then ?_
    refine J_seq ?_
    refine J_region ?_
    refine L_v (opv_move rfl) rfl ?_
    first
      | refine L_v (opv_lenL rfl) rfl ?_
      | refine L_v (opv_lenS rfl) rfl ?_
    refine L_v (opv_gtr rfl rfl) rfl ?_
    refine L_nil ?_
    refine K_then ?_
    refine J_cond rfl (fun h4 => absurd h4 (by decide)) (fun h4 => ?_)
    refine J_skip ?_
    refine K_block ?_
    refine K_then ?_
    refine J_region ?_
    first
      | refine L_v (opv_add64 rfl rfl (by omega)) rfl ?_
      | refine L_v (opv_addS rfl rfl (by omega)) rfl ?_
      | refine L_v (opv_add rfl rfl) rfl ?_
    refine L_v (opv_move rfl) rfl ?_
    refine L_nil ?_
    exact K_loop (2) (by decide) (by decide) ⟨rfl, rfl, rfl, trivial⟩ (Ent.refl _)
  · refine J_seq ?_
    refine J_region ?_
    refine L_v (opv_lss rfl rfl) rfl ?_
    refine L_nil ?_
    refine K_then ?_
    refine J_seq ?_
    refine J_cond rfl (fun h5 => absurd h5 (by decide)) (fun h5 => ?_)
    refine J_exit ?_
    refine K_then_exit ?_
    refine K_then_exit ?_
    refine K_block_here ?_
    exact K_end0 rfl () trivial rfl Ent.take

end Go.Proofs.Ytpnpdliimidoaaa
