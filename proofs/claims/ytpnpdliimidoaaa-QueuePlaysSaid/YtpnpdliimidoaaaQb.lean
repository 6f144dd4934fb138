/- Contracts of functions of the package queue, each proved by a walk over its code; they are used by the texts that import this one. -/
import Derived.Test.YtpnpdliimidoaaaQa
import Derived.Test.YtpnpdliimidoaaaH
namespace Go.Proofs.Ytpnpdliimidoaaa
open Go.SLA
set_option maxRecDepth 100000
set_option linter.unusedVariables false
set_option linter.unusedSimpArgs false
attribute [local irreducible] J L K QL Rg FSpec OpV OpX Rd Back

theorem cut_own {b cap : Nat} {pre post : List Value} {w : Wt} {q : List Wt} (h1 : q.length + 1 ≤ cap) (h2 : cap ≤ maxLen) (h3 : (cap - (q.length + 1)) * 2 ≤ post.length) : Ent (cel b (pre ++ flatW (w :: q) ++ post) 90) (Own 90 2 (.slice (some (ad b (if cap = 1 then pre.length else pre.length + 1 * 2))) q.length (cap - 1)) q.length (flatW q)) := by
  have hq := flatW_len q
  by_cases hcap : cap = 1
  · have hq0 : q = [] := List.eq_nil_of_length_eq_zero (by omega)
    subst hq0
    have := Own.mk (e := 90) (m := 2) (len := 0) (b := b) (cap := cap - 1) (v := .slice (some (ad b pre.length)) 0 (cap - 1)) (l := []) (pre := pre) (post := flatW [w] ++ post) rfl (by omega) (by omega) (by simp) (by rw [hcap]; simp)
    rw [if_pos hcap]
    simpa [flatW] using this
  · have := Own.mk (e := 90) (m := 2) (len := q.length) (b := b) (cap := cap - 1) (v := .slice (some (ad b (pre ++ encW w).length)) q.length (cap - 1)) (l := flatW q) (pre := pre ++ encW w) (post := post) rfl (by omega) (by omega) hq (by rw [show cap - 1 - q.length = cap - (q.length + 1) by omega]; exact h3)
    rw [if_neg hcap]
    rw [List.length_append, encW_len] at this
    have e : pre ++ flatW (w :: q) ++ post = pre ++ encW w ++ flatW q ++ post := by simp [flatW]
    rw [e]
    exact this
theorem next_spec (p : Nat) (s : QS) (m0 m1 d0 d1 now t : Int) (ht : 0 ≤ t ∧ t ≤ 2000000000000000000) (hz : ∀ w, w ∈ s.h ∨ w ∈ s.l → w.tx.size ≤ 1518) (hb : s.b = false) : FSpec Try.prog 54 #[.pointer (some (ad p 0)), .int .i64 t] (OutP p s m0 m1 d0 d1 now) (fun _ : Unit => True) (fun _ => .tuple #[]) (fun _ => OutP p (s.next t) m0 m1 d0 d1 now) := by
  obtain ⟨h, l, b, go, out⟩ := s
  dsimp only at hb hz
  subst hb
  refine FSpec.ex fun x => ?_
  obtain ⟨⟨A0, k0⟩, ⟨A1, k1⟩, ⟨A2, k2⟩⟩ := x
  cases h with
  | cons w h =>
    refine FSpec.eq _ (sep_left_comm _ _ _) ?_
    refine FSpec.own (fun _ e _ => by simp at e) (fun b cap pre post e1 e2 e3 e4 e5 => ?_)
    simp only [Value.slice.injEq] at e1
    obtain ⟨a1, _, a2⟩ := e1
    subst a1 a2
    have e2' : h.length + 1 ≤ k0 := e2
    refine ((next_0 p _ (.int .i64 m0) (.int .i64 m1) (.int .i64 d0) (.int .i64 d1) _ (.int .i64 now) go t ht b k0 pre post w h (hz w (.inl (List.mem_cons_self ..))) e2').frame _).conseq (Ent.of ((sep_left_comm _ _ _).trans (sep_assoc _ _ _).symm)) fun _ _ => ⟨(), trivial, rfl, ?_⟩
    refine Ent.trans (Ent.of (sep_assoc _ _ _)) (Ent.trans (Ent.frame_left (Ent.frame (cut_own e2' e3 e5) _) _) ?_)
    exact Ent.exo (f := fun x : Hd × Hd × Hd => (sep (cel p [.slice x.1.1 h.length x.1.2, .slice x.2.1.1 l.length x.2.1.2, .int .i64 m0, .int .i64 m1, .int .i64 d0, .int .i64 d1, .bool true, .int .i64 w.id, .string w.tx, .int .i64 t, .int .i64 (t + ((w.tx.size : Int) + 20)), .slice x.2.2.1 out.length x.2.2.2, .int .i64 now] 87) (sep (Own 90 2 (.slice x.1.1 h.length x.1.2) h.length (flatW h)) (sep (Own 90 2 (.slice x.2.1.1 l.length x.2.1.2) l.length (flatW l)) (Own 30 4 (.slice x.2.2.1 out.length x.2.2.2) out.length (flat out)))))) ((_, _), (A1, k1), (A2, k2))
  | nil =>
    cases l with
    | cons w l =>
      refine FSpec.eq _ ((congrArg (sep _) (sep_left_comm _ _ _)).trans (sep_left_comm _ _ _)) ?_
      refine FSpec.own (fun _ e _ => by simp at e) (fun b cap pre post e1 e2 e3 e4 e5 => ?_)
      simp only [Value.slice.injEq] at e1
      obtain ⟨a1, _, a2⟩ := e1
      subst a1 a2
      have e2' : l.length + 1 ≤ k1 := e2
      refine ((next_1 p (.int .i64 m0) (.int .i64 m1) (.int .i64 d0) (.int .i64 d1) _ (.int .i64 now) A0 k0 go t ht b k1 pre post w l (hz w (.inr (List.mem_cons_self ..))) e2').frame _).conseq (Ent.of ((sep_left_comm _ _ _).trans (sep_assoc _ _ _).symm)) fun _ _ => ⟨(), trivial, rfl, ?_⟩
      refine Ent.trans (Ent.of (sep_assoc _ _ _)) (Ent.trans (Ent.frame_left (Ent.trans (Ent.frame (cut_own e2' e3 e5) _) (Ent.of (sep_left_comm _ _ _))) _) ?_)
      exact Ent.exo (f := fun x : Hd × Hd × Hd => (sep (cel p [.slice x.1.1 0 x.1.2, .slice x.2.1.1 l.length x.2.1.2, .int .i64 m0, .int .i64 m1, .int .i64 d0, .int .i64 d1, .bool true, .int .i64 w.id, .string w.tx, .int .i64 t, .int .i64 (t + ((w.tx.size : Int) + 20)), .slice x.2.2.1 out.length x.2.2.2, .int .i64 now] 87) (sep (Own 90 2 (.slice x.1.1 0 x.1.2) 0 (flatW [])) (sep (Own 90 2 (.slice x.2.1.1 l.length x.2.1.2) l.length (flatW l)) (Own 30 4 (.slice x.2.2.1 out.length x.2.2.2) out.length (flat out)))))) ((A0, k0), (_, _), (A2, k2))
    | nil =>
      refine ((next_2 p (.int .i64 m0) (.int .i64 m1) (.int .i64 d0) (.int .i64 d1) _ (.int .i64 now) A0 A1 k0 k1 go t ht).frame _).conseq (Ent.refl _) fun _ _ => ⟨(), trivial, rfl, ?_⟩
      exact Ent.exo (f := fun x : Hd × Hd × Hd => (sep (cel p [.slice x.1.1 0 x.1.2, .slice x.2.1.1 0 x.2.1.2, .int .i64 m0, .int .i64 m1, .int .i64 d0, .int .i64 d1, .bool false, .int .i64 go.id, .string go.tx, .int .i64 go.b, .int .i64 go.e, .slice x.2.2.1 out.length x.2.2.2, .int .i64 now] 87) (sep (Own 90 2 (.slice x.1.1 0 x.1.2) 0 (flatW [])) (sep (Own 90 2 (.slice x.2.1.1 0 x.2.1.2) 0 (flatW [])) (Own 30 4 (.slice x.2.2.1 out.length x.2.2.2) out.length (flat out)))))) ((A0, k0), (A1, k1), (A2, k2))

theorem OutP.fold2 {p : Nat} {s : QS} {m0 m1 d0 d1 now : Int} {F : HProp} (x : Hd × Hd × Hd) : Ent (sep (cel p [.slice x.1.1 s.h.length x.1.2, .slice x.2.1.1 s.l.length x.2.1.2, .int .i64 m0, .int .i64 m1, .int .i64 d0, .int .i64 d1, .bool s.b, .int .i64 s.go.id, .string s.go.tx, .int .i64 s.go.b, .int .i64 s.go.e, .slice x.2.2.1 s.out.length x.2.2.2, .int .i64 now] 87) (sep ((sep (Own 90 2 (.slice x.1.1 s.h.length x.1.2) s.h.length (flatW s.h)) (sep (Own 90 2 (.slice x.2.1.1 s.l.length x.2.1.2) s.l.length (flatW s.l)) (Own 30 4 (.slice x.2.2.1 s.out.length x.2.2.2) s.out.length (flat s.out))))) (F))) (sep (OutP p s m0 m1 d0 d1 now) (F)) := Ent.trans (Ent.of (by simp only [sep_assoc])) (OutP.fold x)
theorem QS.step_out (s : QS) : s.step.out.length = s.out.length + 1 := by
  obtain ⟨h, l, b, go, out⟩ := s
  cases h with
  | cons x h => simp [QS.step, QS.next]
  | nil => cases l with
    | cons x l => simp [QS.step, QS.next]
    | nil => simp [QS.step, QS.next]

theorem run_spec (p : Nat) (s : QS) (m0 m1 d0 d1 cur now : Int) (hnow : -9223372036854775808 ≤ now ∧ now ≤ 2000000000000000000) (hok : s.ok) (hn : s.out.length + s.wt ≤ 1000000) : FSpec Try.prog 48 #[.pointer (some (ad p 0)), .int .i64 now] (OutP p s m0 m1 d0 d1 cur) (fun _ : Unit => True) (fun _ => .tuple #[]) (fun _ => OutP p (s.run now) m0 m1 d0 d1 now) := by
  refine FSpec.enter' Try.func48 rfl Try.ntmps48 rfl fun σ F => ?_
  refine J_ex fun x => ?_
  refine J_eq _ (sep_assoc _ _ _) ?_
  refine J_seq ?_
  refine J_region ?_
  refine L_v (opv_move rfl) rfl ?_
  refine L_v (opv_move rfl) rfl ?_
  refine L_v (opv_nilCheck rfl) rfl ?_
  first
    | refine L_v (opv_fieldAddr0 rfl) rfl ?_
    | refine L_v (opv_fieldAddr rfl) rfl ?_
  refine L_x rfl (opx_store rfl rfl rfl (by simp [Value.oneCell'])) (fun _ _ => ?_)
  refine L_nil ?_
  refine K_then ?_
  refine J_block ?_
  refine J_loop (X := QS) (fun y => [(0, .pointer (some (ad p 0))), (1, .int .i64 now)]) (fun y => (sep (OutP p y m0 m1 d0 d1 now) (F))) (fun y => (y.ok ∧ y.out.length + y.wt ≤ 1000000) ∧ s.run now = y.run now) (fun y => y.wt) (s) ⟨⟨hok, hn⟩, rfl⟩ ⟨rfl, rfl, trivial⟩ (OutP.fold2 x) (fun y hy => ?_)
  obtain ⟨⟨hyo, hyn⟩, hy⟩ := hy
  refine J_ex fun x => ?_
  refine J_eq _ (sep_assoc _ _ _) ?_
  refine J_seq ?_
  refine J_seq ?_
  refine J_region ?_
  refine L_v (opv_move rfl) rfl ?_
  refine L_v (opv_nilCheck rfl) rfl ?_
  first
    | refine L_v (opv_fieldAddr0 rfl) rfl ?_
    | refine L_v (opv_fieldAddr rfl) rfl ?_
  refine L_v ((opv_load rfl (Rd.look rfl)).as (v' := .bool (decide (y.b = true))) (by simp)) rfl ?_
  refine L_v (opv_move rfl) rfl ?_
  refine L_gt rfl rfl (fun h1 => ?_) (fun h1 => ?_) (fun _ h => by cases h; rfl)
  · refine L_v (opv_move rfl) rfl ?_
    refine L_gt_on h1 rfl rfl ?_
    refine L_v (opv_nilCheck rfl) rfl ?_
    refine L_gt_on h1 rfl rfl ?_
    first
      | refine L_v (opv_fieldAddr0 rfl) rfl ?_
      | refine L_v (opv_fieldAddr rfl) rfl ?_
    refine L_gt_on h1 rfl rfl ?_
    first
      | refine L_v (opv_fieldAddr0 rfl) rfl ?_
      | refine L_v (opv_fieldAddr rfl) rfl ?_
    refine L_gt_on h1 rfl rfl ?_
    refine L_v (opv_load rfl (Rd.look rfl)) rfl ?_
    refine L_gt_on h1 rfl rfl ?_
    refine L_v (opv_move rfl) rfl ?_
    refine L_gt_on h1 rfl rfl ?_
    refine L_v (opv_leq rfl rfl) rfl ?_
    refine L_v (opv_pick_t rfl h1 rfl) rfl ?_
    refine L_nil ?_
    refine K_then ?_
    refine J_cond rfl (fun h2 => ?_) (fun h2 => ?_)
    · have hby : y.b = true := by assumption
      have hle : y.go.e ≤ now := by assumption
      refine J_skip ?_
      refine K_then ?_
      refine J_block ?_
      refine J_seq ?_
      have hfl : flat y.out ++ [.int .i64 y.go.id, .string y.go.tx, .int .i64 y.go.b, .int .i64 y.go.e] = flat (y.out ++ [y.go]) := flat_snoc y.out y.go
      have hwl : y.out.length ≤ 1000000 := by omega
      refine J_steps (emp) (cel p [.slice x.1.1 y.h.length x.1.2, .slice x.2.1.1 y.l.length x.2.1.2, .int .i64 m0, .int .i64 m1, .int .i64 d0, .int .i64 d1, .bool y.b, .int .i64 y.go.id, .string y.go.tx, .int .i64 y.go.b, .int .i64 y.go.e, .slice x.2.2.1 y.out.length x.2.2.2, .int .i64 now] 87) [13] Try.mixed ?_
      refine R_pure 0 rfl (by kernel_rfl) (by kernel_rfl) (by kernel_rfl) (by kernel_rfl) (.inr ⟨_, Take.eq (A := cel p [.slice x.1.1 y.h.length x.1.2, .slice x.2.1.1 y.l.length x.2.1.2, .int .i64 m0, .int .i64 m1, .int .i64 d0, .int .i64 d1, .bool y.b, .int .i64 y.go.id, .string y.go.tx, .int .i64 y.go.b, .int .i64 y.go.e, .slice x.2.2.1 y.out.length x.2.2.2, .int .i64 now] 87)⟩) (opv_move rfl) rfl ?_
      refine R_pure 1 rfl (by kernel_rfl) (by kernel_rfl) (by kernel_rfl) (by kernel_rfl) (.inr ⟨_, Take.eq (A := cel p [.slice x.1.1 y.h.length x.1.2, .slice x.2.1.1 y.l.length x.2.1.2, .int .i64 m0, .int .i64 m1, .int .i64 d0, .int .i64 d1, .bool y.b, .int .i64 y.go.id, .string y.go.tx, .int .i64 y.go.b, .int .i64 y.go.e, .slice x.2.2.1 y.out.length x.2.2.2, .int .i64 now] 87)⟩) (opv_move rfl) rfl ?_
      refine R_pure 2 rfl (by kernel_rfl) (by kernel_rfl) (by kernel_rfl) (by kernel_rfl) (.inr ⟨_, Take.eq (A := cel p [.slice x.1.1 y.h.length x.1.2, .slice x.2.1.1 y.l.length x.2.1.2, .int .i64 m0, .int .i64 m1, .int .i64 d0, .int .i64 d1, .bool y.b, .int .i64 y.go.id, .string y.go.tx, .int .i64 y.go.b, .int .i64 y.go.e, .slice x.2.2.1 y.out.length x.2.2.2, .int .i64 now] 87)⟩) (opv_nilCheck rfl) rfl ?_
      first
        | refine R_pure 3 rfl (by kernel_rfl) (by kernel_rfl) (by kernel_rfl) (by kernel_rfl) (.inr ⟨_, Take.eq (A := cel p [.slice x.1.1 y.h.length x.1.2, .slice x.2.1.1 y.l.length x.2.1.2, .int .i64 m0, .int .i64 m1, .int .i64 d0, .int .i64 d1, .bool y.b, .int .i64 y.go.id, .string y.go.tx, .int .i64 y.go.b, .int .i64 y.go.e, .slice x.2.2.1 y.out.length x.2.2.2, .int .i64 now] 87)⟩) (opv_fieldAddr0 rfl) rfl ?_
        | refine R_pure 3 rfl (by kernel_rfl) (by kernel_rfl) (by kernel_rfl) (by kernel_rfl) (.inr ⟨_, Take.eq (A := cel p [.slice x.1.1 y.h.length x.1.2, .slice x.2.1.1 y.l.length x.2.1.2, .int .i64 m0, .int .i64 m1, .int .i64 d0, .int .i64 d1, .bool y.b, .int .i64 y.go.id, .string y.go.tx, .int .i64 y.go.b, .int .i64 y.go.e, .slice x.2.2.1 y.out.length x.2.2.2, .int .i64 now] 87)⟩) (opv_fieldAddr rfl) rfl ?_
      refine R_take 4 rfl (by kernel_rfl) (by kernel_rfl) (by kernel_rfl) (by kernel_rfl) (by kernel_rfl) (opv_load rfl (Rd.look rfl)) rfl ?_
      refine R_pure 5 rfl (by kernel_rfl) (by kernel_rfl) (by kernel_rfl) (by kernel_rfl) (.inr ⟨_, Take.eq (A := cel p [.slice x.1.1 y.h.length x.1.2, .slice x.2.1.1 y.l.length x.2.1.2, .int .i64 m0, .int .i64 m1, .int .i64 d0, .int .i64 d1, .bool y.b, .int .i64 y.go.id, .string y.go.tx, .int .i64 y.go.b, .int .i64 y.go.e, .slice x.2.2.1 y.out.length x.2.2.2, .int .i64 now] 87)⟩) (opv_move rfl) rfl ?_
      refine R_pure 6 rfl (by kernel_rfl) (by kernel_rfl) (by kernel_rfl) (by kernel_rfl) (.inr ⟨_, Take.eq (A := cel p [.slice x.1.1 y.h.length x.1.2, .slice x.2.1.1 y.l.length x.2.1.2, .int .i64 m0, .int .i64 m1, .int .i64 d0, .int .i64 d1, .bool y.b, .int .i64 y.go.id, .string y.go.tx, .int .i64 y.go.b, .int .i64 y.go.e, .slice x.2.2.1 y.out.length x.2.2.2, .int .i64 now] 87)⟩) (opv_nilCheck rfl) rfl ?_
      first
        | refine R_pure 7 rfl (by kernel_rfl) (by kernel_rfl) (by kernel_rfl) (by kernel_rfl) (.inr ⟨_, Take.eq (A := cel p [.slice x.1.1 y.h.length x.1.2, .slice x.2.1.1 y.l.length x.2.1.2, .int .i64 m0, .int .i64 m1, .int .i64 d0, .int .i64 d1, .bool y.b, .int .i64 y.go.id, .string y.go.tx, .int .i64 y.go.b, .int .i64 y.go.e, .slice x.2.2.1 y.out.length x.2.2.2, .int .i64 now] 87)⟩) (opv_fieldAddr0 rfl) rfl ?_
        | refine R_pure 7 rfl (by kernel_rfl) (by kernel_rfl) (by kernel_rfl) (by kernel_rfl) (.inr ⟨_, Take.eq (A := cel p [.slice x.1.1 y.h.length x.1.2, .slice x.2.1.1 y.l.length x.2.1.2, .int .i64 m0, .int .i64 m1, .int .i64 d0, .int .i64 d1, .bool y.b, .int .i64 y.go.id, .string y.go.tx, .int .i64 y.go.b, .int .i64 y.go.e, .slice x.2.2.1 y.out.length x.2.2.2, .int .i64 now] 87)⟩) (opv_fieldAddr rfl) rfl ?_
      refine R_take 8 rfl (by kernel_rfl) (by kernel_rfl) (by kernel_rfl) (by kernel_rfl) (by kernel_rfl) (opv_loadS rfl) rfl ?_
      refine R_only 9 rfl rfl (by kernel_rfl) (opx_buildSlice1 (m := 4) rfl rfl (by omega) (by omega) rfl) (fun _ _ => ⟨_, Take.eq (A := emp)⟩) (.inr fun _ _ => ⟨_, Take.eq (A := cel p [.slice x.1.1 y.h.length x.1.2, .slice x.2.1.1 y.l.length x.2.1.2, .int .i64 m0, .int .i64 m1, .int .i64 d0, .int .i64 d1, .bool y.b, .int .i64 y.go.id, .string y.go.tx, .int .i64 y.go.b, .int .i64 y.go.e, .slice x.2.2.1 y.out.length x.2.2.2, .int .i64 now] 87)⟩) (fun b30 _ => ?_)
      refine R_only 10 rfl rfl (by kernel_rfl) (opx_append (m := 4) (B := 40) rfl rfl (Src.lit) rfl (by omega) rfl (by simp [Value.oneCell']) (by unfold maxLen; omega) (by omega) rfl) (fun _ _ => ⟨_, Take.eq (A := emp)⟩) (.inr fun _ _ => ⟨_, Take.eq (A := cel p [.slice x.1.1 y.h.length x.1.2, .slice x.2.1.1 y.l.length x.2.1.2, .int .i64 m0, .int .i64 m1, .int .i64 d0, .int .i64 d1, .bool y.b, .int .i64 y.go.id, .string y.go.tx, .int .i64 y.go.b, .int .i64 y.go.e, .slice x.2.2.1 y.out.length x.2.2.2, .int .i64 now] 87)⟩) (fun y31 _ => ?_)
      refine R_pure 11 rfl (by kernel_rfl) (by kernel_rfl) (by kernel_rfl) (by kernel_rfl) (.inr ⟨_, Take.eq (A := cel p [.slice x.1.1 y.h.length x.1.2, .slice x.2.1.1 y.l.length x.2.1.2, .int .i64 m0, .int .i64 m1, .int .i64 d0, .int .i64 d1, .bool y.b, .int .i64 y.go.id, .string y.go.tx, .int .i64 y.go.b, .int .i64 y.go.e, .slice x.2.2.1 y.out.length x.2.2.2, .int .i64 now] 87)⟩) (opv_nilCheck rfl) rfl ?_
      first
        | refine R_pure 12 rfl (by kernel_rfl) (by kernel_rfl) (by kernel_rfl) (by kernel_rfl) (.inr ⟨_, Take.eq (A := cel p [.slice x.1.1 y.h.length x.1.2, .slice x.2.1.1 y.l.length x.2.1.2, .int .i64 m0, .int .i64 m1, .int .i64 d0, .int .i64 d1, .bool y.b, .int .i64 y.go.id, .string y.go.tx, .int .i64 y.go.b, .int .i64 y.go.e, .slice x.2.2.1 y.out.length x.2.2.2, .int .i64 now] 87)⟩) (opv_fieldAddr0 rfl) rfl ?_
        | refine R_pure 12 rfl (by kernel_rfl) (by kernel_rfl) (by kernel_rfl) (by kernel_rfl) (.inr ⟨_, Take.eq (A := cel p [.slice x.1.1 y.h.length x.1.2, .slice x.2.1.1 y.l.length x.2.1.2, .int .i64 m0, .int .i64 m1, .int .i64 d0, .int .i64 d1, .bool y.b, .int .i64 y.go.id, .string y.go.tx, .int .i64 y.go.b, .int .i64 y.go.e, .slice x.2.2.1 y.out.length x.2.2.2, .int .i64 now] 87)⟩) (opv_fieldAddr rfl) rfl ?_
      refine R_only 13 rfl rfl (by kernel_rfl) (opx_store rfl rfl rfl (by simp [Value.oneCell'])) (fun _ _ => ⟨_, Take.eq (A := emp)⟩) (.inl (by kernel_rfl)) (fun _ _ => ?_)
      refine R_done (by kernel_rfl) ?_
      refine K_then ?_
      refine J_seq ?_
      refine J_region ?_
      refine L_v (opv_move rfl) rfl ?_
      refine L_v (opv_nilCheck rfl) rfl ?_
      first
        | refine L_v (opv_fieldAddr0 rfl) rfl ?_
        | refine L_v (opv_fieldAddr rfl) rfl ?_
      refine L_x rfl (opx_store rfl rfl rfl (by simp [Value.oneCell'])) (fun _ _ => ?_)
      refine L_nil ?_
      refine K_then ?_
      refine J_region ?_
      refine L_v (opv_move rfl) rfl ?_
      refine L_v (opv_move rfl) rfl ?_
      refine L_v (opv_nilCheck rfl) rfl ?_
      first
        | refine L_v (opv_fieldAddr0 rfl) rfl ?_
        | refine L_v (opv_fieldAddr rfl) rfl ?_
      first
        | refine L_v (opv_fieldAddr0 rfl) rfl ?_
        | refine L_v (opv_fieldAddr rfl) rfl ?_
      refine L_v (opv_load rfl (Rd.look rfl)) rfl ?_
      rw [hfl, show y.out.length + 1 = (y.out ++ [y.go]).length by simp]
      refine L_imp (sep (OutP p (⟨y.h, y.l, false, y.go, y.out ++ [y.go]⟩ : QS) m0 m1 d0 d1 now) (F)) (Ent.trans Ent.take (OutP.fold (s := (⟨y.h, y.l, false, y.go, y.out ++ [y.go]⟩ : QS)) (x.1, x.2.1, y31))) ?_
      refine L_x rfl (opx_call0 (next_spec p (⟨y.h, y.l, false, y.go, y.out ++ [y.go]⟩ : QS) m0 m1 d0 d1 now y.go.e ⟨hyo.2, by omega⟩ hyo.1 rfl) rfl rfl rfl) (fun _ _ => ?_)
      refine L_nil ?_
      refine K_block ?_
      have hst := QS.step_wt hby
      have hso : y.step.out.length = y.out.length + 1 := QS.step_out y
      exact K_loop (y.step) ⟨⟨QS.ok_step hyo, by omega⟩, by rw [hy, QS.run_a ⟨hby, hle⟩]⟩ hst ⟨rfl, rfl, trivial⟩ (Ent.refl _)
    · refine J_exit ?_
      refine K_then_exit ?_
      refine K_then_exit ?_
      refine K_block_here ?_
      have hno : ¬ (y.b = true ∧ y.go.e ≤ now) := by rintro ⟨g1, g2⟩; first | contradiction | omega
      rw [hy, QS.run_b hno]
      exact K_end0 rfl () trivial rfl (OutP.fold2 x)
  · refine L_gt_off h1 rfl rfl ?_ (fun _ h => by cases h; rfl)
    refine L_gt_off h1 rfl rfl ?_ (fun _ h => by cases h; rfl)
    refine L_gt_off h1 rfl rfl ?_ (fun _ h => by cases h; rfl)
    refine L_gt_off h1 rfl rfl ?_ (fun _ h => by cases h; rfl)
    refine L_gt_off h1 rfl rfl ?_ (fun _ h => by cases h; rfl)
    refine L_gt_off h1 rfl rfl ?_ (fun _ h => by cases h; rfl)
    refine L_v (opv_pick_f rfl h1 rfl) rfl ?_
    refine L_nil ?_
    refine K_then ?_
    refine J_cond_false rfl ?_
    refine J_exit ?_
    refine K_then_exit ?_
    refine K_then_exit ?_
    refine K_block_here ?_
    have hno : ¬ (y.b = true ∧ y.go.e ≤ now) := by rintro ⟨g1, g2⟩; first | contradiction | omega
    rw [hy, QS.run_b hno]
    exact K_end0 rfl () trivial rfl (OutP.fold2 x)

end Go.Proofs.Ytpnpdliimidoaaa
