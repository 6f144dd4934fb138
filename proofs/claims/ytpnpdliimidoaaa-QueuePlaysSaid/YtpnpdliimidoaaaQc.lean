/- Contracts of functions of the package queue, each proved by a walk over its code; they are used by the texts that import this one. -/
import Derived.Test.YtpnpdliimidoaaaQb
import Derived.Test.YtpnpdliimidoaaaY
import Derived.Test.YtpnpdliimidoaaaH
namespace Go.Proofs.Ytpnpdliimidoaaa
open Go.SLA
set_option maxRecDepth 100000
set_option linter.unusedVariables false
set_option linter.unusedSimpArgs false
attribute [local irreducible] J L K QL Rg FSpec OpV OpX Rd Back
def qs0 : QS := ⟨[], [], false, ⟨0, ⟨#[]⟩, 0, 0⟩, []⟩
theorem qs0_ok : qs0.ok := ⟨fun w hw => (by rcases hw with hw | hw <;> cases hw), Int.le_refl _⟩
theorem qnew {p : Nat} {m0 m1 : Int} {F : HProp} : Ent (sep (cel p [.slice none 0 0, .slice none 0 0, .int .i64 m0, .int .i64 m1, .int .i64 0, .int .i64 0, .bool false, .int .i64 0, .string ⟨#[]⟩, .int .i64 0, .int .i64 0, .slice none 0 0, .int .i64 0] 87) (F)) (sep (OutP p qs0 m0 m1 0 0 0) (F)) :=
  Ent.trans (Ent.frame_left (Ent.trans (Ent.of (emp_sep F).symm) (Ent.trans ((Own.nil 30 4).frame F) (Ent.trans (Ent.of (emp_sep _).symm) (Ent.trans ((Own.nil 90 2).frame _) (Ent.trans (Ent.of (emp_sep _).symm) ((Own.nil 90 2).frame _)))))) _) (OutP.fold (s := qs0) ((none, 0), (none, 0), (none, 0)))

theorem may_yes (n : Int) (h : 1 ≤ n ∧ n ≤ 1024) : FSpec Try.prog 46 #[.int .i64 n] emp (fun _ : Unit => True) (fun _ => .bool true) (fun _ => emp) := by
  have := may_spec n
  rwa [decide_eq_true h] at this
theorem may_no (n : Int) (h : ¬ (1 ≤ n ∧ n ≤ 1024)) : FSpec Try.prog 46 #[.int .i64 n] emp (fun _ : Unit => True) (fun _ => .bool false) (fun _ => emp) := by
  have := may_spec n
  rwa [decide_eq_false h] at this

theorem QNew_ok (a c : Int) (ha : 1 ≤ a ∧ a ≤ 1024) (hc : 1 ≤ c ∧ c ≤ 1024) : FSpec Try.prog 30 #[.int .i64 a, .int .i64 c] (emp) (fun p : Nat => True) (fun p => .tuple #[.pointer (some (ad p 0)), .int .i64 0]) (fun p => OutP p qs0 a c 0 0 0) := by
  refine FSpec.enter' Try.func30 rfl Try.ntmps30 rfl fun σ F => ?_
  refine J_emp ?_
  refine J_seq ?_
  refine J_region ?_
  refine L_v (opv_assign rfl) rfl ?_
  refine L_v (opv_assign rfl) rfl ?_
  refine L_nil ?_
  refine K_then ?_
  refine J_seq ?_
  refine J_seq ?_
  refine J_region ?_
  refine L_v (opv_move rfl) rfl ?_
  refine L_x rfl (opx_call0 (may_yes a ha) rfl rfl rfl) (fun _ _ => ?_)
  refine L_emp ?_
  refine L_v (opv_not rfl) rfl ?_
  refine L_v (opv_move rfl) rfl ?_
  refine L_gon rfl rfl rfl ?_
  refine L_v (opv_move rfl) rfl ?_
  refine L_gon rfl rfl rfl ?_
  refine L_x rfl (opx_call0 (may_yes c hc) rfl rfl rfl) (fun _ _ => ?_)
  refine L_emp ?_
  refine L_gon rfl rfl rfl ?_
  refine L_v (opv_not rfl) rfl ?_
  first
    | refine L_v (opv_pick_tt rfl rfl) rfl ?_
    | refine L_v (opv_pick_ff rfl rfl) rfl ?_
    | refine L_v (opv_pick rfl rfl rfl) rfl ?_
  refine L_nil ?_
  refine K_then ?_
  refine J_cond_false rfl ?_
  refine J_skip ?_
  refine K_then ?_
  refine J_seq ?_
  refine J_region ?_
  refine L_v (opv_move rfl) rfl ?_
  refine L_v (opv_move rfl) rfl ?_
  refine L_v (opv_buildA (pl := [(0, 1), (1, 1)]) rfl rfl) rfl ?_
  refine L_v (opv_build rfl) rfl ?_
  refine L_x rfl (opx_box rfl rfl) (fun p _ => ?_)
  refine L_v (opv_assign rfl) rfl ?_
  refine L_v (opv_assign rfl) rfl ?_
  refine L_nil ?_
  refine K_then ?_
  refine J_ret ?_
  exact K_ret2 rfl rfl rfl p trivial rfl (Ent.trans qnew (Ent.refl _))

theorem QPass_nil (now : Int) : FSpec Try.prog 32 #[.pointer none, .int .i64 now] (emp) (fun _ : Unit => True) (fun _ => .tuple #[.slice none 0 0, .int .i64 2]) (fun _ => emp) := by
  refine FSpec.enter' Try.func32 rfl Try.ntmps32 rfl fun σ F => ?_
  refine J_emp ?_
  refine J_seq ?_
  refine J_region ?_
  refine L_v (opv_assign rfl) rfl ?_
  refine L_v (opv_assign rfl) rfl ?_
  refine L_nil ?_
  refine K_then ?_
  refine J_seq ?_
  refine J_seq ?_
  refine J_region ?_
  refine L_v (opv_move rfl) rfl ?_
  refine L_v (opv_move rfl) rfl ?_
  refine L_x rfl (opx_call0 (qtimely_nil now) rfl rfl rfl) (fun _ _ => ?_)
  refine L_emp ?_
  refine L_v (opv_assign rfl) rfl ?_
  refine L_nil ?_
  refine K_then ?_
  refine J_seq ?_
  refine J_region ?_
  refine L_v (opv_move rfl) rfl ?_
  refine L_v ((opv_neq rfl rfl).bool_t (by decide)) rfl ?_
  refine L_nil ?_
  refine K_then ?_
  refine J_cond_true rfl ?_
  refine J_seq ?_
  refine J_region ?_
  refine L_v (opv_move rfl) rfl ?_
  refine L_v (opv_assign rfl) rfl ?_
  refine L_v (opv_assign rfl) rfl ?_
  refine L_nil ?_
  refine K_then ?_
  refine J_ret ?_
  refine K_then_ret ?_
  exact K_ret2 rfl rfl rfl () trivial rfl Ent.take

theorem QPass_err (p : Nat) (s : QS) (m0 m1 d0 d1 cur now : Int) (h : tim cur now ≠ 0) : FSpec Try.prog 32 #[.pointer (some (ad p 0)), .int .i64 now] (OutP p s m0 m1 d0 d1 cur) (fun _ : Unit => True) (fun _ => .tuple #[.slice none 0 0, .int .i64 (tim cur now)]) (fun _ => OutP p s m0 m1 d0 d1 cur) := by
  refine FSpec.enter' Try.func32 rfl Try.ntmps32 rfl fun σ F => ?_
  refine J_ex fun x => ?_
  refine J_eq _ (sep_assoc _ _ _) ?_
  refine J_seq ?_
  refine J_region ?_
  refine L_v (opv_assign rfl) rfl ?_
  refine L_v (opv_assign rfl) rfl ?_
  refine L_nil ?_
  refine K_then ?_
  refine J_seq ?_
  refine J_seq ?_
  refine J_region ?_
  refine L_v (opv_move rfl) rfl ?_
  refine L_v (opv_move rfl) rfl ?_
  refine L_x rfl (opx_call0 (qtimely_cel p (.slice x.1.1 s.h.length x.1.2) (.slice x.2.1.1 s.l.length x.2.1.2) (.int .i64 m0) (.int .i64 m1) (.int .i64 d0) (.int .i64 d1) (.bool s.b) (.int .i64 s.go.id) (.string s.go.tx) (.int .i64 s.go.b) (.int .i64 s.go.e) (.slice x.2.2.1 s.out.length x.2.2.2) cur now) rfl rfl rfl) (fun _ _ => ?_)
  refine L_v (opv_assign rfl) rfl ?_
  refine L_nil ?_
  refine K_then ?_
  refine J_seq ?_
  refine J_region ?_
  refine L_v (opv_move rfl) rfl ?_
  refine L_v ((opv_neq rfl rfl).bool_t h) rfl ?_
  refine L_nil ?_
  refine K_then ?_
  refine J_cond_true rfl ?_
  refine J_seq ?_
  refine J_region ?_
  refine L_v (opv_move rfl) rfl ?_
  refine L_v (opv_assign rfl) rfl ?_
  refine L_v (opv_assign rfl) rfl ?_
  refine L_nil ?_
  refine K_then ?_
  refine J_ret ?_
  refine K_then_ret ?_
  exact K_ret2 rfl rfl rfl () trivial rfl (OutP.fold2 x)

theorem tim_bd {cur now : Int} (h : tim cur now = 0) : 0 ≤ now ∧ now ≤ 1125899906842624 := by
  unfold tim at h
  split at h
  · cases h
  · omega

theorem qpass_ent {p : Nat} {s : QS} {m0 m1 d0 d1 now : Int} {F : HProp} (x : Hd × Hd × Hd) : Ent (sep (cel p [.slice x.1.1 s.h.length x.1.2, .slice x.2.1.1 s.l.length x.2.1.2, .int .i64 m0, .int .i64 m1, .int .i64 d0, .int .i64 d1, .bool s.b, .int .i64 s.go.id, .string s.go.tx, .int .i64 s.go.b, .int .i64 s.go.e, .slice ((none, 0) : Hd).1 0 ((none, 0) : Hd).2, .int .i64 now] 87) (sep ((sep (Own 90 2 (.slice x.1.1 s.h.length x.1.2) s.h.length (flatW s.h)) (sep (Own 90 2 (.slice x.2.1.1 s.l.length x.2.1.2) s.l.length (flatW s.l)) (Own 30 4 (.slice x.2.2.1 s.out.length x.2.2.2) s.out.length (flat s.out))))) (F))) (sep ((sep (OutP p { s with out := [] } m0 m1 d0 d1 now) (Own 30 4 (.slice x.2.2.1 s.out.length x.2.2.2) s.out.length (flat s.out)))) (F)) :=
  by
  have h := OutP.fold (p := p) (s := { s with out := [] }) (m0 := m0) (m1 := m1) (d0 := d0) (d1 := d1) (now := now) (F := (sep (Own 30 4 (.slice x.2.2.1 s.out.length x.2.2.2) s.out.length (flat s.out)) (F))) (x.1, x.2.1, (none, 0))
  have e1 := (Own.nil 30 4).frame (sep (Own 30 4 (.slice x.2.2.1 s.out.length x.2.2.2) s.out.length (flat s.out)) (F))
  rw [emp_sep] at e1
  refine Ent.trans ?_ (Ent.trans h (Ent.of (sep_assoc _ _ _).symm))
  rw [sep_assoc, sep_assoc]
  exact Ent.frame_left (Ent.frame_left (Ent.frame_left e1 _) _) _

theorem QPass_ok (p : Nat) (s : QS) (m0 m1 d0 d1 cur now : Int) (h : tim cur now = 0) (hok : s.ok) (hn : s.out.length + s.wt ≤ 1000000) : FSpec Try.prog 32 #[.pointer (some (ad p 0)), .int .i64 now] (OutP p s m0 m1 d0 d1 cur) (fun r : Hd => True) (fun r => .tuple #[.slice r.1 (s.run now).out.length r.2, .int .i64 0]) (fun r => (sep (OutP p { (s.run now) with out := [] } m0 m1 d0 d1 now) (Own 30 4 (.slice r.1 (s.run now).out.length r.2) (s.run now).out.length (flat (s.run now).out)))) := by
  have hb : 0 ≤ now ∧ now ≤ 1125899906842624 := tim_bd h
  refine FSpec.enter' Try.func32 rfl Try.ntmps32 rfl fun σ F => ?_
  refine J_ex fun x => ?_
  refine J_eq _ (sep_assoc _ _ _) ?_
  refine J_seq ?_
  refine J_region ?_
  refine L_v (opv_assign rfl) rfl ?_
  refine L_v (opv_assign rfl) rfl ?_
  refine L_nil ?_
  refine K_then ?_
  refine J_seq ?_
  refine J_seq ?_
  refine J_region ?_
  refine L_v (opv_move rfl) rfl ?_
  refine L_v (opv_move rfl) rfl ?_
  refine L_x rfl (opx_call0 (qtimely_cel p (.slice x.1.1 s.h.length x.1.2) (.slice x.2.1.1 s.l.length x.2.1.2) (.int .i64 m0) (.int .i64 m1) (.int .i64 d0) (.int .i64 d1) (.bool s.b) (.int .i64 s.go.id) (.string s.go.tx) (.int .i64 s.go.b) (.int .i64 s.go.e) (.slice x.2.2.1 s.out.length x.2.2.2) cur now) rfl rfl rfl) (fun _ _ => ?_)
  refine L_v (opv_assign rfl) rfl ?_
  refine L_nil ?_
  refine K_then ?_
  refine J_seq ?_
  refine J_region ?_
  refine L_v (opv_move rfl) rfl ?_
  refine L_v ((opv_neq rfl rfl).bool_f (fun n => n h)) rfl ?_
  refine L_nil ?_
  refine K_then ?_
  refine J_cond_false rfl ?_
  refine J_skip ?_
  refine K_then ?_
  refine J_seq ?_
  refine J_region ?_
  refine L_v (opv_move rfl) rfl ?_
  refine L_v (opv_move rfl) rfl ?_
  refine L_imp (sep (OutP p s m0 m1 d0 d1 cur) (F)) (OutP.fold2 x) ?_
  refine L_x rfl (opx_call0 (run_spec p s m0 m1 d0 d1 cur now (by omega) hok hn) rfl rfl rfl) (fun _ _ => ?_)
  refine L_ex fun x => ?_
  refine L_eq _ (sep_assoc _ _ _) ?_
  refine L_nil ?_
  refine K_then ?_
  refine J_seq ?_
  refine J_region ?_
  refine L_v (opv_move rfl) rfl ?_
  refine L_v (opv_nilCheck rfl) rfl ?_
  first
    | refine L_v (opv_fieldAddr0 rfl) rfl ?_
    | refine L_v (opv_fieldAddr rfl) rfl ?_
  refine L_v (opv_load rfl (Rd.look rfl)) rfl ?_
  refine L_v (opv_assign rfl) rfl ?_
  refine L_nil ?_
  refine K_then ?_
  refine J_seq ?_
  refine J_region ?_
  refine L_v (opv_move rfl) rfl ?_
  refine L_v (opv_nilCheck rfl) rfl ?_
  first
    | refine L_v (opv_fieldAddr0 rfl) rfl ?_
    | refine L_v (opv_fieldAddr rfl) rfl ?_
  refine L_x rfl (opx_store rfl rfl rfl (by simp [Value.oneCell'])) (fun _ _ => ?_)
  refine L_nil ?_
  refine K_then ?_
  refine J_seq ?_
  refine J_region ?_
  refine L_v (opv_move rfl) rfl ?_
  refine L_v (opv_assign rfl) rfl ?_
  refine L_v (opv_assign rfl) rfl ?_
  refine L_nil ?_
  refine K_then ?_
  refine J_ret ?_
  exact K_ret2 rfl rfl rfl x.2.2 trivial rfl (qpass_ent x)

theorem QWaits_nil  : FSpec Try.prog 37 #[.pointer none] (emp) (fun _ : Unit => True) (fun _ => .tuple #[.int .i64 0, .int .i64 0]) (fun _ => emp) := by
  refine FSpec.enter' Try.func37 rfl Try.ntmps37 rfl fun σ F => ?_
  refine J_seq ?_
  refine J_region ?_
  refine L_v (opv_assign rfl) rfl ?_
  refine L_v (opv_assign rfl) rfl ?_
  refine L_nil ?_
  refine K_then ?_
  refine J_seq ?_
  refine J_seq ?_
  refine J_region ?_
  refine L_v (opv_move rfl) rfl ?_
  first
    | refine L_v (opv_eql rfl rfl) rfl ?_
    | refine L_v (opv_eqlS rfl rfl) rfl ?_
    | refine L_v (opv_eqlNil rfl rfl) rfl ?_
    | refine L_v (opv_eqlB rfl rfl) rfl ?_
  refine L_nil ?_
  refine K_then ?_
  refine J_cond_true rfl ?_
  refine J_seq ?_
  refine J_region ?_
  refine L_v (opv_assign rfl) rfl ?_
  refine L_v (opv_assign rfl) rfl ?_
  refine L_nil ?_
  refine K_then ?_
  refine J_ret ?_
  refine K_then_ret ?_
  exact K_ret2 rfl rfl rfl () trivial rfl Ent.take

theorem QDropped_nil  : FSpec Try.prog 38 #[.pointer none] (emp) (fun _ : Unit => True) (fun _ => .tuple #[.int .i64 0, .int .i64 0]) (fun _ => emp) := by
  refine FSpec.enter' Try.func38 rfl Try.ntmps38 rfl fun σ F => ?_
  refine J_seq ?_
  refine J_region ?_
  refine L_v (opv_assign rfl) rfl ?_
  refine L_v (opv_assign rfl) rfl ?_
  refine L_nil ?_
  refine K_then ?_
  refine J_seq ?_
  refine J_seq ?_
  refine J_region ?_
  refine L_v (opv_move rfl) rfl ?_
  first
    | refine L_v (opv_eql rfl rfl) rfl ?_
    | refine L_v (opv_eqlS rfl rfl) rfl ?_
    | refine L_v (opv_eqlNil rfl rfl) rfl ?_
    | refine L_v (opv_eqlB rfl rfl) rfl ?_
  refine L_nil ?_
  refine K_then ?_
  refine J_cond_true rfl ?_
  refine J_seq ?_
  refine J_region ?_
  refine L_v (opv_assign rfl) rfl ?_
  refine L_v (opv_assign rfl) rfl ?_
  refine L_nil ?_
  refine K_then ?_
  refine J_ret ?_
  refine K_then_ret ?_
  exact K_ret2 rfl rfl rfl () trivial rfl Ent.take

theorem QWaits_spec (p : Nat) (s : QS) (m0 m1 d0 d1 now : Int) : FSpec Try.prog 37 #[.pointer (some (ad p 0))] (OutP p s m0 m1 d0 d1 now) (fun _ : Unit => True) (fun _ => .tuple #[.int .i64 s.h.length, .int .i64 s.l.length]) (fun _ => OutP p s m0 m1 d0 d1 now) := by
  refine FSpec.enter' Try.func37 rfl Try.ntmps37 rfl fun σ F => ?_
  refine J_ex fun x => ?_
  refine J_eq _ (sep_assoc _ _ _) ?_
  refine J_seq ?_
  refine J_region ?_
  refine L_v (opv_assign rfl) rfl ?_
  refine L_v (opv_assign rfl) rfl ?_
  refine L_nil ?_
  refine K_then ?_
  refine J_seq ?_
  refine J_seq ?_
  refine J_region ?_
  refine L_v (opv_move rfl) rfl ?_
  first
    | refine L_v (opv_eql rfl rfl) rfl ?_
    | refine L_v (opv_eqlS rfl rfl) rfl ?_
    | refine L_v (opv_eqlNil rfl rfl) rfl ?_
    | refine L_v (opv_eqlB rfl rfl) rfl ?_
  refine L_nil ?_
  refine K_then ?_
  refine J_cond_false rfl ?_
  refine J_skip ?_
  refine K_then ?_
  refine J_seq ?_
  refine J_quiet Try.mixed (by kernel_rfl) ?_
  refine Q_v (opv_move rfl) rfl ?_
  refine Q_v (opv_nilCheck rfl) rfl ?_
  first
    | refine Q_v (opv_fieldAddr0 rfl) rfl ?_
    | refine Q_v (opv_fieldAddr rfl) rfl ?_
  first
    | refine Q_v (opv_indexAddr rfl rfl (by omega)) rfl ?_
    | refine Q_v (opv_indexAddrA rfl rfl (by omega)) rfl ?_
  refine Q_v (opv_load rfl (Rd.look rfl)) rfl ?_
  first
    | refine Q_v (opv_lenL rfl) rfl ?_
    | refine Q_v (opv_lenS rfl) rfl ?_
  refine Q_v (opv_move rfl) rfl ?_
  refine Q_v (opv_nilCheck rfl) rfl ?_
  first
    | refine Q_v (opv_fieldAddr0 rfl) rfl ?_
    | refine Q_v (opv_fieldAddr rfl) rfl ?_
  first
    | refine Q_v (opv_indexAddr rfl rfl (by omega)) rfl ?_
    | refine Q_v (opv_indexAddrA rfl rfl (by omega)) rfl ?_
  refine Q_v (opv_load rfl (Rd.look rfl)) rfl ?_
  first
    | refine Q_v (opv_lenL rfl) rfl ?_
    | refine Q_v (opv_lenS rfl) rfl ?_
  refine Q_v (opv_assign rfl) rfl ?_
  refine Q_v (opv_assign rfl) rfl ?_
  refine QL_nil ?_
  refine K_then ?_
  refine J_ret ?_
  exact K_ret2 rfl rfl rfl () trivial rfl (OutP.fold2 x)

theorem QDropped_spec (p : Nat) (s : QS) (m0 m1 d0 d1 now : Int) : FSpec Try.prog 38 #[.pointer (some (ad p 0))] (OutP p s m0 m1 d0 d1 now) (fun _ : Unit => True) (fun _ => .tuple #[.int .i64 d0, .int .i64 d1]) (fun _ => OutP p s m0 m1 d0 d1 now) := by
  refine FSpec.enter' Try.func38 rfl Try.ntmps38 rfl fun σ F => ?_
  refine J_ex fun x => ?_
  refine J_eq _ (sep_assoc _ _ _) ?_
  refine J_seq ?_
  refine J_region ?_
  refine L_v (opv_assign rfl) rfl ?_
  refine L_v (opv_assign rfl) rfl ?_
  refine L_nil ?_
  refine K_then ?_
  refine J_seq ?_
  refine J_seq ?_
  refine J_region ?_
  refine L_v (opv_move rfl) rfl ?_
  first
    | refine L_v (opv_eql rfl rfl) rfl ?_
    | refine L_v (opv_eqlS rfl rfl) rfl ?_
    | refine L_v (opv_eqlNil rfl rfl) rfl ?_
    | refine L_v (opv_eqlB rfl rfl) rfl ?_
  refine L_nil ?_
  refine K_then ?_
  refine J_cond_false rfl ?_
  refine J_skip ?_
  refine K_then ?_
  refine J_seq ?_
  refine J_quiet Try.mixed (by kernel_rfl) ?_
  refine Q_v (opv_move rfl) rfl ?_
  refine Q_v (opv_nilCheck rfl) rfl ?_
  first
    | refine Q_v (opv_fieldAddr0 rfl) rfl ?_
    | refine Q_v (opv_fieldAddr rfl) rfl ?_
  first
    | refine Q_v (opv_indexAddr rfl rfl (by omega)) rfl ?_
    | refine Q_v (opv_indexAddrA rfl rfl (by omega)) rfl ?_
  refine Q_v (opv_load rfl (Rd.look rfl)) rfl ?_
  refine Q_v (opv_move rfl) rfl ?_
  refine Q_v (opv_nilCheck rfl) rfl ?_
  first
    | refine Q_v (opv_fieldAddr0 rfl) rfl ?_
    | refine Q_v (opv_fieldAddr rfl) rfl ?_
  first
    | refine Q_v (opv_indexAddr rfl rfl (by omega)) rfl ?_
    | refine Q_v (opv_indexAddrA rfl rfl (by omega)) rfl ?_
  refine Q_v (opv_load rfl (Rd.look rfl)) rfl ?_
  refine Q_v (opv_assign rfl) rfl ?_
  refine Q_v (opv_assign rfl) rfl ?_
  refine QL_nil ?_
  refine K_then ?_
  refine J_ret ?_
  exact K_ret2 rfl rfl rfl () trivial rfl (OutP.fold2 x)

theorem QOffer_nil (now id : Int) (high : Bool) (text : ByteArray) : FSpec Try.prog 35 #[.pointer none, .int .i64 now, .bool high, .int .i64 id, .string text] (emp) (fun _ : Unit => True) (fun _ => .int .i64 2) (fun _ => emp) := by
  refine FSpec.enter' Try.func35 rfl Try.ntmps35 rfl fun σ F => ?_
  refine J_seq ?_
  refine J_region ?_
  refine L_v (opv_assign rfl) rfl ?_
  refine L_nil ?_
  refine K_then ?_
  refine J_seq ?_
  refine J_region ?_
  refine L_v (opv_move rfl) rfl ?_
  refine L_v (opv_move rfl) rfl ?_
  refine L_x rfl (opx_call0 (qtimely_nil now) rfl rfl rfl) (fun _ _ => ?_)
  refine L_emp ?_
  refine L_v (opv_assign rfl) rfl ?_
  refine L_nil ?_
  refine K_then ?_
  refine J_seq ?_
  refine J_block ?_
  refine J_seq ?_
  refine J_region ?_
  refine L_v (opv_move rfl) rfl ?_
  refine L_v ((opv_neq rfl rfl).bool_t (by decide)) rfl ?_
  refine L_v (opv_assign rfl) rfl ?_
  refine L_nil ?_
  refine K_then ?_
  refine J_cond_true rfl ?_
  refine J_seq ?_
  refine J_region ?_
  refine L_v (opv_move rfl) rfl ?_
  refine L_v (opv_assign rfl) rfl ?_
  refine L_nil ?_
  refine K_then ?_
  refine J_ret ?_
  refine K_block_ret ?_
  refine K_then_ret ?_
  exact K_ret1 rfl rfl () trivial (rfl) Ent.take

theorem QOffer_err (p : Nat) (s : QS) (m0 m1 d0 d1 cur now id : Int) (text : ByteArray) (high : Bool) (h : tim cur now ≠ 0) : FSpec Try.prog 35 #[.pointer (some (ad p 0)), .int .i64 now, .bool high, .int .i64 id, .string text] (OutP p s m0 m1 d0 d1 cur) (fun _ : Unit => True) (fun _ => .int .i64 (tim cur now)) (fun _ => OutP p s m0 m1 d0 d1 cur) := by
  refine FSpec.enter' Try.func35 rfl Try.ntmps35 rfl fun σ F => ?_
  refine J_ex fun x => ?_
  refine J_eq _ (sep_assoc _ _ _) ?_
  refine J_seq ?_
  refine J_region ?_
  refine L_v (opv_assign rfl) rfl ?_
  refine L_nil ?_
  refine K_then ?_
  refine J_seq ?_
  refine J_region ?_
  refine L_v (opv_move rfl) rfl ?_
  refine L_v (opv_move rfl) rfl ?_
  refine L_x rfl (opx_call0 (qtimely_cel p (.slice x.1.1 s.h.length x.1.2) (.slice x.2.1.1 s.l.length x.2.1.2) (.int .i64 m0) (.int .i64 m1) (.int .i64 d0) (.int .i64 d1) (.bool s.b) (.int .i64 s.go.id) (.string s.go.tx) (.int .i64 s.go.b) (.int .i64 s.go.e) (.slice x.2.2.1 s.out.length x.2.2.2) cur now) rfl rfl rfl) (fun _ _ => ?_)
  refine L_v (opv_assign rfl) rfl ?_
  refine L_nil ?_
  refine K_then ?_
  refine J_seq ?_
  refine J_block ?_
  refine J_seq ?_
  refine J_region ?_
  refine L_v (opv_move rfl) rfl ?_
  refine L_v ((opv_neq rfl rfl).bool_t h) rfl ?_
  refine L_v (opv_assign rfl) rfl ?_
  refine L_nil ?_
  refine K_then ?_
  refine J_cond_true rfl ?_
  refine J_seq ?_
  refine J_region ?_
  refine L_v (opv_move rfl) rfl ?_
  refine L_v (opv_assign rfl) rfl ?_
  refine L_nil ?_
  refine K_then ?_
  refine J_ret ?_
  refine K_block_ret ?_
  refine K_then_ret ?_
  exact K_ret1 rfl rfl () trivial (rfl) (OutP.fold2 x)

theorem QOffer_long (p : Nat) (s : QS) (m0 m1 d0 d1 cur now id : Int) (text : ByteArray) (high : Bool) (h : tim cur now = 0) (hl : 1518 < (text.size : Int)) : FSpec Try.prog 35 #[.pointer (some (ad p 0)), .int .i64 now, .bool high, .int .i64 id, .string text] (OutP p s m0 m1 d0 d1 cur) (fun _ : Unit => True) (fun _ => .int .i64 11) (fun _ => OutP p s m0 m1 d0 d1 cur) := by
  refine FSpec.enter' Try.func35 rfl Try.ntmps35 rfl fun σ F => ?_
  refine J_ex fun x => ?_
  refine J_eq _ (sep_assoc _ _ _) ?_
  refine J_seq ?_
  refine J_region ?_
  refine L_v (opv_assign rfl) rfl ?_
  refine L_nil ?_
  refine K_then ?_
  refine J_seq ?_
  refine J_region ?_
  refine L_v (opv_move rfl) rfl ?_
  refine L_v (opv_move rfl) rfl ?_
  refine L_x rfl (opx_call0 (qtimely_cel p (.slice x.1.1 s.h.length x.1.2) (.slice x.2.1.1 s.l.length x.2.1.2) (.int .i64 m0) (.int .i64 m1) (.int .i64 d0) (.int .i64 d1) (.bool s.b) (.int .i64 s.go.id) (.string s.go.tx) (.int .i64 s.go.b) (.int .i64 s.go.e) (.slice x.2.2.1 s.out.length x.2.2.2) cur now) rfl rfl rfl) (fun _ _ => ?_)
  refine L_v (opv_assign rfl) rfl ?_
  refine L_nil ?_
  refine K_then ?_
  refine J_seq ?_
  refine J_block ?_
  refine J_seq ?_
  refine J_region ?_
  refine L_v (opv_move rfl) rfl ?_
  refine L_v ((opv_neq rfl rfl).bool_f (fun n => n h)) rfl ?_
  refine L_v (opv_assign rfl) rfl ?_
  refine L_nil ?_
  refine K_then ?_
  refine J_cond_false rfl ?_
  refine J_seq ?_
  refine J_region ?_
  refine L_v (opv_move rfl) rfl ?_
  first
    | refine L_v (opv_lenL rfl) rfl ?_
    | refine L_v (opv_lenS rfl) rfl ?_
  refine L_v ((opv_gtr rfl rfl).bool_t hl) rfl ?_
  refine L_v (opv_assign rfl) rfl ?_
  refine L_nil ?_
  refine K_then ?_
  refine J_cond_true rfl ?_
  refine J_seq ?_
  refine J_region ?_
  refine L_v (opv_assign rfl) rfl ?_
  refine L_nil ?_
  refine K_then ?_
  refine J_ret ?_
  refine K_block_ret ?_
  refine K_then_ret ?_
  exact K_ret1 rfl rfl () trivial (rfl) (OutP.fold2 x)

theorem QOffer_go_true (p : Nat) (s : QS) (m0 m1 d0 d1 cur now id : Int) (text : ByteArray) (hl : ¬ 1518 < (text.size : Int)) (h : tim cur now = 0) (hok : s.ok) (hn : s.out.length + s.wt ≤ 1000000) (hbs : (s.run now).b = false) : FSpec Try.prog 35 #[.pointer (some (ad p 0)), .int .i64 now, .bool true, .int .i64 id, .string text] (OutP p s m0 m1 d0 d1 cur) (fun _ : Unit => True) (fun _ => .int .i64 0) (fun _ => OutP p { (s.run now) with b := true, go := goes (⟨id, text⟩ : Wt) now } m0 m1 d0 d1 now) := by
  have hb : 0 ≤ now ∧ now ≤ 1125899906842624 := tim_bd h
  refine FSpec.enter' Try.func35 rfl Try.ntmps35 rfl fun σ F => ?_
  refine J_ex fun x => ?_
  refine J_eq _ (sep_assoc _ _ _) ?_
  refine J_seq ?_
  refine J_region ?_
  refine L_v (opv_assign rfl) rfl ?_
  refine L_nil ?_
  refine K_then ?_
  refine J_seq ?_
  refine J_region ?_
  refine L_v (opv_move rfl) rfl ?_
  refine L_v (opv_move rfl) rfl ?_
  refine L_x rfl (opx_call0 (qtimely_cel p (.slice x.1.1 s.h.length x.1.2) (.slice x.2.1.1 s.l.length x.2.1.2) (.int .i64 m0) (.int .i64 m1) (.int .i64 d0) (.int .i64 d1) (.bool s.b) (.int .i64 s.go.id) (.string s.go.tx) (.int .i64 s.go.b) (.int .i64 s.go.e) (.slice x.2.2.1 s.out.length x.2.2.2) cur now) rfl rfl rfl) (fun _ _ => ?_)
  refine L_v (opv_assign rfl) rfl ?_
  refine L_nil ?_
  refine K_then ?_
  refine J_seq ?_
  refine J_block ?_
  refine J_seq ?_
  refine J_region ?_
  refine L_v (opv_move rfl) rfl ?_
  refine L_v ((opv_neq rfl rfl).bool_f (fun n => n h)) rfl ?_
  refine L_v (opv_assign rfl) rfl ?_
  refine L_nil ?_
  refine K_then ?_
  refine J_cond_false rfl ?_
  refine J_seq ?_
  refine J_region ?_
  refine L_v (opv_move rfl) rfl ?_
  first
    | refine L_v (opv_lenL rfl) rfl ?_
    | refine L_v (opv_lenS rfl) rfl ?_
  refine L_v ((opv_gtr rfl rfl).bool_f hl) rfl ?_
  refine L_v (opv_assign rfl) rfl ?_
  refine L_nil ?_
  refine K_then ?_
  refine J_cond_false rfl ?_
  refine J_skip ?_
  refine K_block ?_
  refine K_then ?_
  refine J_seq ?_
  refine J_region ?_
  refine L_v (opv_move rfl) rfl ?_
  refine L_v (opv_move rfl) rfl ?_
  refine L_imp (sep (OutP p s m0 m1 d0 d1 cur) (F)) (OutP.fold2 x) ?_
  refine L_x rfl (opx_call0 (run_spec p s m0 m1 d0 d1 cur now (by omega) hok hn) rfl rfl rfl) (fun _ _ => ?_)
  refine L_ex fun x => ?_
  refine L_eq _ (sep_assoc _ _ _) ?_
  refine L_nil ?_
  refine K_then ?_
  refine J_seq ?_
  refine J_region ?_
  refine L_v (opv_move rfl) rfl ?_
  refine L_v (opv_move rfl) rfl ?_
  refine L_v (opv_build rfl) rfl ?_
  refine L_v (opv_move rfl) rfl ?_
  refine L_x rfl (opx_call0 (kind_true) rfl rfl rfl) (fun _ _ => ?_)
  refine L_emp ?_
  refine L_x rfl (opx_alloc rfl) (fun b12 _ => ?_)
  refine L_x rfl (opx_store rfl rfl rfl (by simp [Value.oneCell'])) (fun _ _ => ?_)
  refine L_v (opv_assign rfl) rfl ?_
  refine L_nil ?_
  refine K_then ?_
  refine J_seq ?_
  refine J_block ?_
  refine J_seq ?_
  rw [hbs]
  refine J_region ?_
  refine L_v (opv_move rfl) rfl ?_
  refine L_v (opv_nilCheck rfl) rfl ?_
  first
    | refine L_v (opv_fieldAddr0 rfl) rfl ?_
    | refine L_v (opv_fieldAddr rfl) rfl ?_
  refine L_v (opv_load rfl (Rd.look rfl)) rfl ?_
  refine L_v (opv_not rfl) rfl ?_
  refine L_v (opv_assign rfl) rfl ?_
  refine L_nil ?_
  refine K_then ?_
  refine J_cond_true rfl ?_
  refine J_region ?_
  refine L_v (opv_move rfl) rfl ?_
  refine L_v (opv_move rfl) rfl ?_
  refine L_v (opv_loadS rfl) rfl ?_
  refine L_x rfl (opx_call0 (begin_spec p (.slice x.1.1 (s.run now).h.length x.1.2) (.slice x.2.1.1 (s.run now).l.length x.2.1.2) (.int .i64 m0) (.int .i64 m1) (.int .i64 d0) (.int .i64 d1) (.slice x.2.2.1 (s.run now).out.length x.2.2.2) (.int .i64 now) false (s.run now).go now (⟨id, text⟩ : Wt) (by omega) (by show text.size ≤ 1518; omega)) rfl rfl rfl) (fun _ _ => ?_)
  refine L_nil ?_
  refine K_block ?_
  refine K_then ?_
  refine J_seq ?_
  refine J_region ?_
  refine L_v (opv_assign rfl) rfl ?_
  refine L_nil ?_
  refine K_then ?_
  refine J_ret ?_
  exact K_ret1 rfl rfl () trivial (rfl) (Ent.trans Ent.take (OutP.fold (s := ⟨(s.run now).h, (s.run now).l, true, ⟨id, text, now, now + ((text.size : Int) + 20)⟩, (s.run now).out⟩) x))

theorem QOffer_full_true (p : Nat) (s : QS) (m0 m1 d0 d1 cur now id : Int) (text : ByteArray) (hl : ¬ 1518 < (text.size : Int)) (h : tim cur now = 0) (hok : s.ok) (hn : s.out.length + s.wt ≤ 1000000) (hbs : (s.run now).b = true) (hf : m0 ≤ ((s.run now).h.length : Int)) (hd : -1000000000 ≤ d0 ∧ d0 ≤ 1000000000) : FSpec Try.prog 35 #[.pointer (some (ad p 0)), .int .i64 now, .bool true, .int .i64 id, .string text] (OutP p s m0 m1 d0 d1 cur) (fun _ : Unit => True) (fun _ => .int .i64 22) (fun _ => OutP p (s.run now) m0 m1 (d0 + 1) d1 now) := by
  have hb : 0 ≤ now ∧ now ≤ 1125899906842624 := tim_bd h
  refine FSpec.enter' Try.func35 rfl Try.ntmps35 rfl fun σ F => ?_
  refine J_ex fun x => ?_
  refine J_eq _ (sep_assoc _ _ _) ?_
  refine J_seq ?_
  refine J_region ?_
  refine L_v (opv_assign rfl) rfl ?_
  refine L_nil ?_
  refine K_then ?_
  refine J_seq ?_
  refine J_region ?_
  refine L_v (opv_move rfl) rfl ?_
  refine L_v (opv_move rfl) rfl ?_
  refine L_x rfl (opx_call0 (qtimely_cel p (.slice x.1.1 s.h.length x.1.2) (.slice x.2.1.1 s.l.length x.2.1.2) (.int .i64 m0) (.int .i64 m1) (.int .i64 d0) (.int .i64 d1) (.bool s.b) (.int .i64 s.go.id) (.string s.go.tx) (.int .i64 s.go.b) (.int .i64 s.go.e) (.slice x.2.2.1 s.out.length x.2.2.2) cur now) rfl rfl rfl) (fun _ _ => ?_)
  refine L_v (opv_assign rfl) rfl ?_
  refine L_nil ?_
  refine K_then ?_
  refine J_seq ?_
  refine J_block ?_
  refine J_seq ?_
  refine J_region ?_
  refine L_v (opv_move rfl) rfl ?_
  refine L_v ((opv_neq rfl rfl).bool_f (fun n => n h)) rfl ?_
  refine L_v (opv_assign rfl) rfl ?_
  refine L_nil ?_
  refine K_then ?_
  refine J_cond_false rfl ?_
  refine J_seq ?_
  refine J_region ?_
  refine L_v (opv_move rfl) rfl ?_
  first
    | refine L_v (opv_lenL rfl) rfl ?_
    | refine L_v (opv_lenS rfl) rfl ?_
  refine L_v ((opv_gtr rfl rfl).bool_f hl) rfl ?_
  refine L_v (opv_assign rfl) rfl ?_
  refine L_nil ?_
  refine K_then ?_
  refine J_cond_false rfl ?_
  refine J_skip ?_
  refine K_block ?_
  refine K_then ?_
  refine J_seq ?_
  refine J_region ?_
  refine L_v (opv_move rfl) rfl ?_
  refine L_v (opv_move rfl) rfl ?_
  refine L_imp (sep (OutP p s m0 m1 d0 d1 cur) (F)) (OutP.fold2 x) ?_
  refine L_x rfl (opx_call0 (run_spec p s m0 m1 d0 d1 cur now (by omega) hok hn) rfl rfl rfl) (fun _ _ => ?_)
  refine L_ex fun x => ?_
  refine L_eq _ (sep_assoc _ _ _) ?_
  refine L_nil ?_
  refine K_then ?_
  refine J_seq ?_
  refine J_region ?_
  refine L_v (opv_move rfl) rfl ?_
  refine L_v (opv_move rfl) rfl ?_
  refine L_v (opv_build rfl) rfl ?_
  refine L_v (opv_move rfl) rfl ?_
  refine L_x rfl (opx_call0 (kind_true) rfl rfl rfl) (fun _ _ => ?_)
  refine L_emp ?_
  refine L_x rfl (opx_alloc rfl) (fun b12 _ => ?_)
  refine L_x rfl (opx_store rfl rfl rfl (by simp [Value.oneCell'])) (fun _ _ => ?_)
  refine L_v (opv_assign rfl) rfl ?_
  refine L_nil ?_
  refine K_then ?_
  refine J_seq ?_
  refine J_block ?_
  refine J_seq ?_
  refine J_region ?_
  refine L_v (opv_move rfl) rfl ?_
  refine L_v (opv_nilCheck rfl) rfl ?_
  first
    | refine L_v (opv_fieldAddr0 rfl) rfl ?_
    | refine L_v (opv_fieldAddr rfl) rfl ?_
  refine L_v ((opv_load rfl (Rd.look rfl)).as (v' := .bool true) (by rw [hbs])) rfl ?_
  refine L_v (opv_not rfl) rfl ?_
  refine L_v (opv_assign rfl) rfl ?_
  refine L_nil ?_
  refine K_then ?_
  refine J_cond_false rfl ?_
  refine J_seq ?_
  refine J_quiet Try.mixed (by kernel_rfl) ?_
  refine Q_v (opv_move rfl) rfl ?_
  refine Q_v (opv_move rfl) rfl ?_
  refine Q_v (opv_nilCheck rfl) rfl ?_
  first
    | refine Q_v (opv_fieldAddr0 rfl) rfl ?_
    | refine Q_v (opv_fieldAddr rfl) rfl ?_
  refine Q_v ((opv_indexAddrA rfl rfl (by omega)).as (v' := .pointer (some (ad p 0))) rfl) rfl ?_
  refine Q_v (opv_load rfl (Rd.look rfl)) rfl ?_
  first
    | refine Q_v (opv_lenL rfl) rfl ?_
    | refine Q_v (opv_lenS rfl) rfl ?_
  refine Q_v (opv_move rfl) rfl ?_
  refine Q_v (opv_move rfl) rfl ?_
  refine Q_v (opv_nilCheck rfl) rfl ?_
  first
    | refine Q_v (opv_fieldAddr0 rfl) rfl ?_
    | refine Q_v (opv_fieldAddr rfl) rfl ?_
  refine Q_v ((opv_indexAddrA rfl rfl (by omega)).as (v' := .pointer (some (ad p 2))) rfl) rfl ?_
  refine Q_v (opv_load rfl (Rd.look rfl)) rfl ?_
  refine Q_v ((opv_geq rfl rfl).bool_t hf) rfl ?_
  refine Q_v (opv_assign rfl) rfl ?_
  refine QL_nil ?_
  refine K_then ?_
  refine J_cond_true rfl ?_
  refine J_seq ?_
  refine J_steps (emp) (cel p [.slice x.1.1 (s.run now).h.length x.1.2, .slice x.2.1.1 (s.run now).l.length x.2.1.2, .int .i64 m0, .int .i64 m1, .int .i64 d0, .int .i64 d1, .bool (s.run now).b, .int .i64 (s.run now).go.id, .string (s.run now).go.tx, .int .i64 (s.run now).go.b, .int .i64 (s.run now).go.e, .slice x.2.2.1 (s.run now).out.length x.2.2.2, .int .i64 now] 87) [10] Try.mixed ?_
  refine R_pure 0 rfl (by kernel_rfl) (by kernel_rfl) (by kernel_rfl) (by kernel_rfl) (.inr ⟨_, Take.eq (A := cel p [.slice x.1.1 (s.run now).h.length x.1.2, .slice x.2.1.1 (s.run now).l.length x.2.1.2, .int .i64 m0, .int .i64 m1, .int .i64 d0, .int .i64 d1, .bool (s.run now).b, .int .i64 (s.run now).go.id, .string (s.run now).go.tx, .int .i64 (s.run now).go.b, .int .i64 (s.run now).go.e, .slice x.2.2.1 (s.run now).out.length x.2.2.2, .int .i64 now] 87)⟩) (opv_move rfl) rfl ?_
  refine R_pure 1 rfl (by kernel_rfl) (by kernel_rfl) (by kernel_rfl) (by kernel_rfl) (.inr ⟨_, Take.eq (A := cel p [.slice x.1.1 (s.run now).h.length x.1.2, .slice x.2.1.1 (s.run now).l.length x.2.1.2, .int .i64 m0, .int .i64 m1, .int .i64 d0, .int .i64 d1, .bool (s.run now).b, .int .i64 (s.run now).go.id, .string (s.run now).go.tx, .int .i64 (s.run now).go.b, .int .i64 (s.run now).go.e, .slice x.2.2.1 (s.run now).out.length x.2.2.2, .int .i64 now] 87)⟩) (opv_move rfl) rfl ?_
  refine R_pure 2 rfl (by kernel_rfl) (by kernel_rfl) (by kernel_rfl) (by kernel_rfl) (.inr ⟨_, Take.eq (A := cel p [.slice x.1.1 (s.run now).h.length x.1.2, .slice x.2.1.1 (s.run now).l.length x.2.1.2, .int .i64 m0, .int .i64 m1, .int .i64 d0, .int .i64 d1, .bool (s.run now).b, .int .i64 (s.run now).go.id, .string (s.run now).go.tx, .int .i64 (s.run now).go.b, .int .i64 (s.run now).go.e, .slice x.2.2.1 (s.run now).out.length x.2.2.2, .int .i64 now] 87)⟩) (opv_nilCheck rfl) rfl ?_
  first
    | refine R_pure 3 rfl (by kernel_rfl) (by kernel_rfl) (by kernel_rfl) (by kernel_rfl) (.inr ⟨_, Take.eq (A := cel p [.slice x.1.1 (s.run now).h.length x.1.2, .slice x.2.1.1 (s.run now).l.length x.2.1.2, .int .i64 m0, .int .i64 m1, .int .i64 d0, .int .i64 d1, .bool (s.run now).b, .int .i64 (s.run now).go.id, .string (s.run now).go.tx, .int .i64 (s.run now).go.b, .int .i64 (s.run now).go.e, .slice x.2.2.1 (s.run now).out.length x.2.2.2, .int .i64 now] 87)⟩) (opv_fieldAddr0 rfl) rfl ?_
    | refine R_pure 3 rfl (by kernel_rfl) (by kernel_rfl) (by kernel_rfl) (by kernel_rfl) (.inr ⟨_, Take.eq (A := cel p [.slice x.1.1 (s.run now).h.length x.1.2, .slice x.2.1.1 (s.run now).l.length x.2.1.2, .int .i64 m0, .int .i64 m1, .int .i64 d0, .int .i64 d1, .bool (s.run now).b, .int .i64 (s.run now).go.id, .string (s.run now).go.tx, .int .i64 (s.run now).go.b, .int .i64 (s.run now).go.e, .slice x.2.2.1 (s.run now).out.length x.2.2.2, .int .i64 now] 87)⟩) (opv_fieldAddr rfl) rfl ?_
  refine R_pure 4 rfl (by kernel_rfl) (by kernel_rfl) (by kernel_rfl) (by kernel_rfl) (.inr ⟨_, Take.eq (A := cel p [.slice x.1.1 (s.run now).h.length x.1.2, .slice x.2.1.1 (s.run now).l.length x.2.1.2, .int .i64 m0, .int .i64 m1, .int .i64 d0, .int .i64 d1, .bool (s.run now).b, .int .i64 (s.run now).go.id, .string (s.run now).go.tx, .int .i64 (s.run now).go.b, .int .i64 (s.run now).go.e, .slice x.2.2.1 (s.run now).out.length x.2.2.2, .int .i64 now] 87)⟩) ((opv_indexAddrA rfl rfl (by omega)).as (v' := .pointer (some (ad p 4))) rfl) rfl ?_
  refine R_take 5 rfl (by kernel_rfl) (by kernel_rfl) (by kernel_rfl) (by kernel_rfl) (by kernel_rfl) (opv_load rfl (Rd.look rfl)) rfl ?_
  first
    | refine R_pure 6 rfl (by kernel_rfl) (by kernel_rfl) (by kernel_rfl) (by kernel_rfl) (.inr ⟨_, Take.eq (A := cel p [.slice x.1.1 (s.run now).h.length x.1.2, .slice x.2.1.1 (s.run now).l.length x.2.1.2, .int .i64 m0, .int .i64 m1, .int .i64 d0, .int .i64 d1, .bool (s.run now).b, .int .i64 (s.run now).go.id, .string (s.run now).go.tx, .int .i64 (s.run now).go.b, .int .i64 (s.run now).go.e, .slice x.2.2.1 (s.run now).out.length x.2.2.2, .int .i64 now] 87)⟩) (opv_add64 rfl rfl (by omega)) rfl ?_
    | refine R_pure 6 rfl (by kernel_rfl) (by kernel_rfl) (by kernel_rfl) (by kernel_rfl) (.inr ⟨_, Take.eq (A := cel p [.slice x.1.1 (s.run now).h.length x.1.2, .slice x.2.1.1 (s.run now).l.length x.2.1.2, .int .i64 m0, .int .i64 m1, .int .i64 d0, .int .i64 d1, .bool (s.run now).b, .int .i64 (s.run now).go.id, .string (s.run now).go.tx, .int .i64 (s.run now).go.b, .int .i64 (s.run now).go.e, .slice x.2.2.1 (s.run now).out.length x.2.2.2, .int .i64 now] 87)⟩) (opv_addS rfl rfl (by omega)) rfl ?_
    | refine R_pure 6 rfl (by kernel_rfl) (by kernel_rfl) (by kernel_rfl) (by kernel_rfl) (.inr ⟨_, Take.eq (A := cel p [.slice x.1.1 (s.run now).h.length x.1.2, .slice x.2.1.1 (s.run now).l.length x.2.1.2, .int .i64 m0, .int .i64 m1, .int .i64 d0, .int .i64 d1, .bool (s.run now).b, .int .i64 (s.run now).go.id, .string (s.run now).go.tx, .int .i64 (s.run now).go.b, .int .i64 (s.run now).go.e, .slice x.2.2.1 (s.run now).out.length x.2.2.2, .int .i64 now] 87)⟩) (opv_add rfl rfl) rfl ?_
  refine R_pure 7 rfl (by kernel_rfl) (by kernel_rfl) (by kernel_rfl) (by kernel_rfl) (.inr ⟨_, Take.eq (A := cel p [.slice x.1.1 (s.run now).h.length x.1.2, .slice x.2.1.1 (s.run now).l.length x.2.1.2, .int .i64 m0, .int .i64 m1, .int .i64 d0, .int .i64 d1, .bool (s.run now).b, .int .i64 (s.run now).go.id, .string (s.run now).go.tx, .int .i64 (s.run now).go.b, .int .i64 (s.run now).go.e, .slice x.2.2.1 (s.run now).out.length x.2.2.2, .int .i64 now] 87)⟩) (opv_nilCheck rfl) rfl ?_
  first
    | refine R_pure 8 rfl (by kernel_rfl) (by kernel_rfl) (by kernel_rfl) (by kernel_rfl) (.inr ⟨_, Take.eq (A := cel p [.slice x.1.1 (s.run now).h.length x.1.2, .slice x.2.1.1 (s.run now).l.length x.2.1.2, .int .i64 m0, .int .i64 m1, .int .i64 d0, .int .i64 d1, .bool (s.run now).b, .int .i64 (s.run now).go.id, .string (s.run now).go.tx, .int .i64 (s.run now).go.b, .int .i64 (s.run now).go.e, .slice x.2.2.1 (s.run now).out.length x.2.2.2, .int .i64 now] 87)⟩) (opv_fieldAddr0 rfl) rfl ?_
    | refine R_pure 8 rfl (by kernel_rfl) (by kernel_rfl) (by kernel_rfl) (by kernel_rfl) (.inr ⟨_, Take.eq (A := cel p [.slice x.1.1 (s.run now).h.length x.1.2, .slice x.2.1.1 (s.run now).l.length x.2.1.2, .int .i64 m0, .int .i64 m1, .int .i64 d0, .int .i64 d1, .bool (s.run now).b, .int .i64 (s.run now).go.id, .string (s.run now).go.tx, .int .i64 (s.run now).go.b, .int .i64 (s.run now).go.e, .slice x.2.2.1 (s.run now).out.length x.2.2.2, .int .i64 now] 87)⟩) (opv_fieldAddr rfl) rfl ?_
  refine R_pure 9 rfl (by kernel_rfl) (by kernel_rfl) (by kernel_rfl) (by kernel_rfl) (.inr ⟨_, Take.eq (A := cel p [.slice x.1.1 (s.run now).h.length x.1.2, .slice x.2.1.1 (s.run now).l.length x.2.1.2, .int .i64 m0, .int .i64 m1, .int .i64 d0, .int .i64 d1, .bool (s.run now).b, .int .i64 (s.run now).go.id, .string (s.run now).go.tx, .int .i64 (s.run now).go.b, .int .i64 (s.run now).go.e, .slice x.2.2.1 (s.run now).out.length x.2.2.2, .int .i64 now] 87)⟩) ((opv_indexAddrA rfl rfl (by omega)).as (v' := .pointer (some (ad p 4))) rfl) rfl ?_
  refine R_only 10 rfl rfl (by kernel_rfl) (opx_store rfl rfl rfl (by simp [Value.oneCell'])) (fun _ _ => ⟨_, Take.eq (A := emp)⟩) (.inl (by kernel_rfl)) (fun _ _ => ?_)
  refine R_done (by kernel_rfl) ?_
  refine K_then ?_
  refine J_seq ?_
  refine J_region ?_
  refine L_v (opv_assign rfl) rfl ?_
  refine L_nil ?_
  refine K_then ?_
  refine J_ret ?_
  refine K_block_ret ?_
  refine K_then_ret ?_
  exact K_ret1 rfl rfl () trivial (rfl) (Ent.trans Ent.take (OutP.fold (s := (s.run now)) x))

theorem QOffer_wait_true (p : Nat) (s : QS) (m0 m1 d0 d1 cur now id : Int) (text : ByteArray) (hl : ¬ 1518 < (text.size : Int)) (h : tim cur now = 0) (hok : s.ok) (hn : s.out.length + s.wt ≤ 1000000) (hbs : (s.run now).b = true) (hf : ¬ m0 ≤ ((s.run now).h.length : Int)) (hm : m0 ≤ 1000000) : FSpec Try.prog 35 #[.pointer (some (ad p 0)), .int .i64 now, .bool true, .int .i64 id, .string text] (OutP p s m0 m1 d0 d1 cur) (fun _ : Unit => True) (fun _ => .int .i64 0) (fun _ => OutP p { (s.run now) with h := (s.run now).h ++ [(⟨id, text⟩ : Wt)] } m0 m1 d0 d1 now) := by
  have hb : 0 ≤ now ∧ now ≤ 1125899906842624 := tim_bd h
  refine FSpec.enter' Try.func35 rfl Try.ntmps35 rfl fun σ F => ?_
  refine J_ex fun x => ?_
  refine J_eq _ (sep_assoc _ _ _) ?_
  refine J_seq ?_
  refine J_region ?_
  refine L_v (opv_assign rfl) rfl ?_
  refine L_nil ?_
  refine K_then ?_
  refine J_seq ?_
  refine J_region ?_
  refine L_v (opv_move rfl) rfl ?_
  refine L_v (opv_move rfl) rfl ?_
  refine L_x rfl (opx_call0 (qtimely_cel p (.slice x.1.1 s.h.length x.1.2) (.slice x.2.1.1 s.l.length x.2.1.2) (.int .i64 m0) (.int .i64 m1) (.int .i64 d0) (.int .i64 d1) (.bool s.b) (.int .i64 s.go.id) (.string s.go.tx) (.int .i64 s.go.b) (.int .i64 s.go.e) (.slice x.2.2.1 s.out.length x.2.2.2) cur now) rfl rfl rfl) (fun _ _ => ?_)
  refine L_v (opv_assign rfl) rfl ?_
  refine L_nil ?_
  refine K_then ?_
  refine J_seq ?_
  refine J_block ?_
  refine J_seq ?_
  refine J_region ?_
  refine L_v (opv_move rfl) rfl ?_
  refine L_v ((opv_neq rfl rfl).bool_f (fun n => n h)) rfl ?_
  refine L_v (opv_assign rfl) rfl ?_
  refine L_nil ?_
  refine K_then ?_
  refine J_cond_false rfl ?_
  refine J_seq ?_
  refine J_region ?_
  refine L_v (opv_move rfl) rfl ?_
  first
    | refine L_v (opv_lenL rfl) rfl ?_
    | refine L_v (opv_lenS rfl) rfl ?_
  refine L_v ((opv_gtr rfl rfl).bool_f hl) rfl ?_
  refine L_v (opv_assign rfl) rfl ?_
  refine L_nil ?_
  refine K_then ?_
  refine J_cond_false rfl ?_
  refine J_skip ?_
  refine K_block ?_
  refine K_then ?_
  refine J_seq ?_
  refine J_region ?_
  refine L_v (opv_move rfl) rfl ?_
  refine L_v (opv_move rfl) rfl ?_
  refine L_imp (sep (OutP p s m0 m1 d0 d1 cur) (F)) (OutP.fold2 x) ?_
  refine L_x rfl (opx_call0 (run_spec p s m0 m1 d0 d1 cur now (by omega) hok hn) rfl rfl rfl) (fun _ _ => ?_)
  refine L_ex fun x => ?_
  refine L_eq _ (sep_assoc _ _ _) ?_
  refine L_nil ?_
  refine K_then ?_
  refine J_seq ?_
  refine J_region ?_
  refine L_v (opv_move rfl) rfl ?_
  refine L_v (opv_move rfl) rfl ?_
  refine L_v (opv_build rfl) rfl ?_
  refine L_v (opv_move rfl) rfl ?_
  refine L_x rfl (opx_call0 (kind_true) rfl rfl rfl) (fun _ _ => ?_)
  refine L_emp ?_
  refine L_x rfl (opx_alloc rfl) (fun b12 _ => ?_)
  refine L_x rfl (opx_store rfl rfl rfl (by simp [Value.oneCell'])) (fun _ _ => ?_)
  refine L_v (opv_assign rfl) rfl ?_
  refine L_nil ?_
  refine K_then ?_
  refine J_seq ?_
  refine J_block ?_
  refine J_seq ?_
  refine J_region ?_
  refine L_v (opv_move rfl) rfl ?_
  refine L_v (opv_nilCheck rfl) rfl ?_
  first
    | refine L_v (opv_fieldAddr0 rfl) rfl ?_
    | refine L_v (opv_fieldAddr rfl) rfl ?_
  refine L_v ((opv_load rfl (Rd.look rfl)).as (v' := .bool true) (by rw [hbs])) rfl ?_
  refine L_v (opv_not rfl) rfl ?_
  refine L_v (opv_assign rfl) rfl ?_
  refine L_nil ?_
  refine K_then ?_
  refine J_cond_false rfl ?_
  refine J_seq ?_
  refine J_quiet Try.mixed (by kernel_rfl) ?_
  refine Q_v (opv_move rfl) rfl ?_
  refine Q_v (opv_move rfl) rfl ?_
  refine Q_v (opv_nilCheck rfl) rfl ?_
  first
    | refine Q_v (opv_fieldAddr0 rfl) rfl ?_
    | refine Q_v (opv_fieldAddr rfl) rfl ?_
  refine Q_v ((opv_indexAddrA rfl rfl (by omega)).as (v' := .pointer (some (ad p 0))) rfl) rfl ?_
  refine Q_v (opv_load rfl (Rd.look rfl)) rfl ?_
  first
    | refine Q_v (opv_lenL rfl) rfl ?_
    | refine Q_v (opv_lenS rfl) rfl ?_
  refine Q_v (opv_move rfl) rfl ?_
  refine Q_v (opv_move rfl) rfl ?_
  refine Q_v (opv_nilCheck rfl) rfl ?_
  first
    | refine Q_v (opv_fieldAddr0 rfl) rfl ?_
    | refine Q_v (opv_fieldAddr rfl) rfl ?_
  refine Q_v ((opv_indexAddrA rfl rfl (by omega)).as (v' := .pointer (some (ad p 2))) rfl) rfl ?_
  refine Q_v (opv_load rfl (Rd.look rfl)) rfl ?_
  refine Q_v ((opv_geq rfl rfl).bool_f hf) rfl ?_
  refine Q_v (opv_assign rfl) rfl ?_
  refine QL_nil ?_
  refine K_then ?_
  refine J_cond_false rfl ?_
  refine J_steps (cel b12 [.int .i64 id, .string text] 90) ((sep (cel b12 [.int .i64 id, .string text] 90) (cel p [.slice x.1.1 (s.run now).h.length x.1.2, .slice x.2.1.1 (s.run now).l.length x.2.1.2, .int .i64 m0, .int .i64 m1, .int .i64 d0, .int .i64 d1, .bool (s.run now).b, .int .i64 (s.run now).go.id, .string (s.run now).go.tx, .int .i64 (s.run now).go.b, .int .i64 (s.run now).go.e, .slice x.2.2.1 (s.run now).out.length x.2.2.2, .int .i64 now] 87))) [14] Try.mixed ?_
  refine R_pure 0 rfl (by kernel_rfl) (by kernel_rfl) (by kernel_rfl) (by kernel_rfl) (.inr ⟨_, Take.eq (A := (sep (cel b12 [.int .i64 id, .string text] 90) (cel p [.slice x.1.1 (s.run now).h.length x.1.2, .slice x.2.1.1 (s.run now).l.length x.2.1.2, .int .i64 m0, .int .i64 m1, .int .i64 d0, .int .i64 d1, .bool (s.run now).b, .int .i64 (s.run now).go.id, .string (s.run now).go.tx, .int .i64 (s.run now).go.b, .int .i64 (s.run now).go.e, .slice x.2.2.1 (s.run now).out.length x.2.2.2, .int .i64 now] 87)))⟩) (opv_move rfl) rfl ?_
  refine R_pure 1 rfl (by kernel_rfl) (by kernel_rfl) (by kernel_rfl) (by kernel_rfl) (.inr ⟨_, Take.eq (A := (sep (cel b12 [.int .i64 id, .string text] 90) (cel p [.slice x.1.1 (s.run now).h.length x.1.2, .slice x.2.1.1 (s.run now).l.length x.2.1.2, .int .i64 m0, .int .i64 m1, .int .i64 d0, .int .i64 d1, .bool (s.run now).b, .int .i64 (s.run now).go.id, .string (s.run now).go.tx, .int .i64 (s.run now).go.b, .int .i64 (s.run now).go.e, .slice x.2.2.1 (s.run now).out.length x.2.2.2, .int .i64 now] 87)))⟩) (opv_move rfl) rfl ?_
  refine R_pure 2 rfl (by kernel_rfl) (by kernel_rfl) (by kernel_rfl) (by kernel_rfl) (.inr ⟨_, Take.eq (A := (sep (cel b12 [.int .i64 id, .string text] 90) (cel p [.slice x.1.1 (s.run now).h.length x.1.2, .slice x.2.1.1 (s.run now).l.length x.2.1.2, .int .i64 m0, .int .i64 m1, .int .i64 d0, .int .i64 d1, .bool (s.run now).b, .int .i64 (s.run now).go.id, .string (s.run now).go.tx, .int .i64 (s.run now).go.b, .int .i64 (s.run now).go.e, .slice x.2.2.1 (s.run now).out.length x.2.2.2, .int .i64 now] 87)))⟩) (opv_move rfl) rfl ?_
  refine R_pure 3 rfl (by kernel_rfl) (by kernel_rfl) (by kernel_rfl) (by kernel_rfl) (.inr ⟨_, Take.eq (A := (sep (cel b12 [.int .i64 id, .string text] 90) (cel p [.slice x.1.1 (s.run now).h.length x.1.2, .slice x.2.1.1 (s.run now).l.length x.2.1.2, .int .i64 m0, .int .i64 m1, .int .i64 d0, .int .i64 d1, .bool (s.run now).b, .int .i64 (s.run now).go.id, .string (s.run now).go.tx, .int .i64 (s.run now).go.b, .int .i64 (s.run now).go.e, .slice x.2.2.1 (s.run now).out.length x.2.2.2, .int .i64 now] 87)))⟩) (opv_move rfl) rfl ?_
  refine R_pure 4 rfl (by kernel_rfl) (by kernel_rfl) (by kernel_rfl) (by kernel_rfl) (.inr ⟨_, Take.eq (A := (sep (cel b12 [.int .i64 id, .string text] 90) (cel p [.slice x.1.1 (s.run now).h.length x.1.2, .slice x.2.1.1 (s.run now).l.length x.2.1.2, .int .i64 m0, .int .i64 m1, .int .i64 d0, .int .i64 d1, .bool (s.run now).b, .int .i64 (s.run now).go.id, .string (s.run now).go.tx, .int .i64 (s.run now).go.b, .int .i64 (s.run now).go.e, .slice x.2.2.1 (s.run now).out.length x.2.2.2, .int .i64 now] 87)))⟩) (opv_nilCheck rfl) rfl ?_
  first
    | refine R_pure 5 rfl (by kernel_rfl) (by kernel_rfl) (by kernel_rfl) (by kernel_rfl) (.inr ⟨_, Take.eq (A := (sep (cel b12 [.int .i64 id, .string text] 90) (cel p [.slice x.1.1 (s.run now).h.length x.1.2, .slice x.2.1.1 (s.run now).l.length x.2.1.2, .int .i64 m0, .int .i64 m1, .int .i64 d0, .int .i64 d1, .bool (s.run now).b, .int .i64 (s.run now).go.id, .string (s.run now).go.tx, .int .i64 (s.run now).go.b, .int .i64 (s.run now).go.e, .slice x.2.2.1 (s.run now).out.length x.2.2.2, .int .i64 now] 87)))⟩) (opv_fieldAddr0 rfl) rfl ?_
    | refine R_pure 5 rfl (by kernel_rfl) (by kernel_rfl) (by kernel_rfl) (by kernel_rfl) (.inr ⟨_, Take.eq (A := (sep (cel b12 [.int .i64 id, .string text] 90) (cel p [.slice x.1.1 (s.run now).h.length x.1.2, .slice x.2.1.1 (s.run now).l.length x.2.1.2, .int .i64 m0, .int .i64 m1, .int .i64 d0, .int .i64 d1, .bool (s.run now).b, .int .i64 (s.run now).go.id, .string (s.run now).go.tx, .int .i64 (s.run now).go.b, .int .i64 (s.run now).go.e, .slice x.2.2.1 (s.run now).out.length x.2.2.2, .int .i64 now] 87)))⟩) (opv_fieldAddr rfl) rfl ?_
  refine R_pure 6 rfl (by kernel_rfl) (by kernel_rfl) (by kernel_rfl) (by kernel_rfl) (.inr ⟨_, Take.eq (A := (sep (cel b12 [.int .i64 id, .string text] 90) (cel p [.slice x.1.1 (s.run now).h.length x.1.2, .slice x.2.1.1 (s.run now).l.length x.2.1.2, .int .i64 m0, .int .i64 m1, .int .i64 d0, .int .i64 d1, .bool (s.run now).b, .int .i64 (s.run now).go.id, .string (s.run now).go.tx, .int .i64 (s.run now).go.b, .int .i64 (s.run now).go.e, .slice x.2.2.1 (s.run now).out.length x.2.2.2, .int .i64 now] 87)))⟩) ((opv_indexAddrA rfl rfl (by omega)).as (v' := .pointer (some (ad p 0))) rfl) rfl ?_
  refine R_take 7 rfl (by kernel_rfl) (by kernel_rfl) (by kernel_rfl) (by kernel_rfl) (by kernel_rfl) (opv_load rfl (Rd.look rfl)) rfl ?_
  refine R_take 8 rfl (by kernel_rfl) (by kernel_rfl) (by kernel_rfl) (by kernel_rfl) (by kernel_rfl) (opv_loadS rfl) rfl ?_
  refine R_pure 11 rfl (by kernel_rfl) (by kernel_rfl) (by kernel_rfl) (by kernel_rfl) (.inr ⟨_, Take.eq (A := (sep (cel b12 [.int .i64 id, .string text] 90) (cel p [.slice x.1.1 (s.run now).h.length x.1.2, .slice x.2.1.1 (s.run now).l.length x.2.1.2, .int .i64 m0, .int .i64 m1, .int .i64 d0, .int .i64 d1, .bool (s.run now).b, .int .i64 (s.run now).go.id, .string (s.run now).go.tx, .int .i64 (s.run now).go.b, .int .i64 (s.run now).go.e, .slice x.2.2.1 (s.run now).out.length x.2.2.2, .int .i64 now] 87)))⟩) (opv_nilCheck rfl) rfl ?_
  first
    | refine R_pure 12 rfl (by kernel_rfl) (by kernel_rfl) (by kernel_rfl) (by kernel_rfl) (.inr ⟨_, Take.eq (A := (sep (cel b12 [.int .i64 id, .string text] 90) (cel p [.slice x.1.1 (s.run now).h.length x.1.2, .slice x.2.1.1 (s.run now).l.length x.2.1.2, .int .i64 m0, .int .i64 m1, .int .i64 d0, .int .i64 d1, .bool (s.run now).b, .int .i64 (s.run now).go.id, .string (s.run now).go.tx, .int .i64 (s.run now).go.b, .int .i64 (s.run now).go.e, .slice x.2.2.1 (s.run now).out.length x.2.2.2, .int .i64 now] 87)))⟩) (opv_fieldAddr0 rfl) rfl ?_
    | refine R_pure 12 rfl (by kernel_rfl) (by kernel_rfl) (by kernel_rfl) (by kernel_rfl) (.inr ⟨_, Take.eq (A := (sep (cel b12 [.int .i64 id, .string text] 90) (cel p [.slice x.1.1 (s.run now).h.length x.1.2, .slice x.2.1.1 (s.run now).l.length x.2.1.2, .int .i64 m0, .int .i64 m1, .int .i64 d0, .int .i64 d1, .bool (s.run now).b, .int .i64 (s.run now).go.id, .string (s.run now).go.tx, .int .i64 (s.run now).go.b, .int .i64 (s.run now).go.e, .slice x.2.2.1 (s.run now).out.length x.2.2.2, .int .i64 now] 87)))⟩) (opv_fieldAddr rfl) rfl ?_
  refine R_only 9 rfl rfl (by kernel_rfl) (opx_buildSlice1 (m := 2) rfl rfl (by omega) (by omega) rfl) (fun _ _ => ⟨_, Take.eq (A := cel b12 [.int .i64 id, .string text] 90)⟩) (.inr fun _ _ => ⟨_, Take.eq (A := (sep (cel b12 [.int .i64 id, .string text] 90) (cel p [.slice x.1.1 (s.run now).h.length x.1.2, .slice x.2.1.1 (s.run now).l.length x.2.1.2, .int .i64 m0, .int .i64 m1, .int .i64 d0, .int .i64 d1, .bool (s.run now).b, .int .i64 (s.run now).go.id, .string (s.run now).go.tx, .int .i64 (s.run now).go.b, .int .i64 (s.run now).go.e, .slice x.2.2.1 (s.run now).out.length x.2.2.2, .int .i64 now] 87)))⟩) (fun b42 _ => ?_)
  refine R_only 10 rfl rfl (by kernel_rfl) (opx_append (m := 2) (B := 24) rfl rfl (Src.lit) rfl (by omega) rfl (by simp [Value.oneCell']) (by unfold maxLen; omega) (by omega) rfl) (fun _ _ => ⟨_, Take.eq (A := cel b12 [.int .i64 id, .string text] 90)⟩) (.inr fun _ _ => ⟨_, Take.eq (A := (sep (cel b12 [.int .i64 id, .string text] 90) (cel p [.slice x.1.1 (s.run now).h.length x.1.2, .slice x.2.1.1 (s.run now).l.length x.2.1.2, .int .i64 m0, .int .i64 m1, .int .i64 d0, .int .i64 d1, .bool (s.run now).b, .int .i64 (s.run now).go.id, .string (s.run now).go.tx, .int .i64 (s.run now).go.b, .int .i64 (s.run now).go.e, .slice x.2.2.1 (s.run now).out.length x.2.2.2, .int .i64 now] 87)))⟩) (fun y43 _ => ?_)
  refine R_pure 13 rfl (by kernel_rfl) (by kernel_rfl) (by kernel_rfl) (by kernel_rfl) (.inr ⟨_, Take.eq (A := (sep (cel b12 [.int .i64 id, .string text] 90) (cel p [.slice x.1.1 (s.run now).h.length x.1.2, .slice x.2.1.1 (s.run now).l.length x.2.1.2, .int .i64 m0, .int .i64 m1, .int .i64 d0, .int .i64 d1, .bool (s.run now).b, .int .i64 (s.run now).go.id, .string (s.run now).go.tx, .int .i64 (s.run now).go.b, .int .i64 (s.run now).go.e, .slice x.2.2.1 (s.run now).out.length x.2.2.2, .int .i64 now] 87)))⟩) ((opv_indexAddrA rfl rfl (by omega)).as (v' := .pointer (some (ad p 0))) rfl) rfl ?_
  refine R_only 14 rfl rfl (by kernel_rfl) (opx_store rfl rfl rfl (by simp [Value.oneCell'])) (fun _ _ => ⟨_, Take.eq (A := cel b12 [.int .i64 id, .string text] 90)⟩) (.inl (by kernel_rfl)) (fun _ _ => ?_)
  refine R_done (by kernel_rfl) ?_
  refine K_block ?_
  refine K_then ?_
  refine J_seq ?_
  refine J_region ?_
  refine L_v (opv_assign rfl) rfl ?_
  refine L_nil ?_
  refine K_then ?_
  refine J_ret ?_
  have hfl : flatW (s.run now).h ++ [.int .i64 id, .string text] = flatW ((s.run now).h ++ [(⟨id, text⟩ : Wt)]) := flatW_snoc (s.run now).h (⟨id, text⟩ : Wt)
  rw [hfl, show (s.run now).h.length + 1 = ((s.run now).h ++ [(⟨id, text⟩ : Wt)]).length by simp]
  exact K_ret1 rfl rfl () trivial (rfl) (Ent.trans Ent.take (OutP.fold (s := ⟨(s.run now).h ++ [(⟨id, text⟩ : Wt)], (s.run now).l, (s.run now).b, (s.run now).go, (s.run now).out⟩) (y43, x.2)))

theorem QOffer_go_false (p : Nat) (s : QS) (m0 m1 d0 d1 cur now id : Int) (text : ByteArray) (hl : ¬ 1518 < (text.size : Int)) (h : tim cur now = 0) (hok : s.ok) (hn : s.out.length + s.wt ≤ 1000000) (hbs : (s.run now).b = false) : FSpec Try.prog 35 #[.pointer (some (ad p 0)), .int .i64 now, .bool false, .int .i64 id, .string text] (OutP p s m0 m1 d0 d1 cur) (fun _ : Unit => True) (fun _ => .int .i64 0) (fun _ => OutP p { (s.run now) with b := true, go := goes (⟨id, text⟩ : Wt) now } m0 m1 d0 d1 now) := by
  have hb : 0 ≤ now ∧ now ≤ 1125899906842624 := tim_bd h
  refine FSpec.enter' Try.func35 rfl Try.ntmps35 rfl fun σ F => ?_
  refine J_ex fun x => ?_
  refine J_eq _ (sep_assoc _ _ _) ?_
  refine J_seq ?_
  refine J_region ?_
  refine L_v (opv_assign rfl) rfl ?_
  refine L_nil ?_
  refine K_then ?_
  refine J_seq ?_
  refine J_region ?_
  refine L_v (opv_move rfl) rfl ?_
  refine L_v (opv_move rfl) rfl ?_
  refine L_x rfl (opx_call0 (qtimely_cel p (.slice x.1.1 s.h.length x.1.2) (.slice x.2.1.1 s.l.length x.2.1.2) (.int .i64 m0) (.int .i64 m1) (.int .i64 d0) (.int .i64 d1) (.bool s.b) (.int .i64 s.go.id) (.string s.go.tx) (.int .i64 s.go.b) (.int .i64 s.go.e) (.slice x.2.2.1 s.out.length x.2.2.2) cur now) rfl rfl rfl) (fun _ _ => ?_)
  refine L_v (opv_assign rfl) rfl ?_
  refine L_nil ?_
  refine K_then ?_
  refine J_seq ?_
  refine J_block ?_
  refine J_seq ?_
  refine J_region ?_
  refine L_v (opv_move rfl) rfl ?_
  refine L_v ((opv_neq rfl rfl).bool_f (fun n => n h)) rfl ?_
  refine L_v (opv_assign rfl) rfl ?_
  refine L_nil ?_
  refine K_then ?_
  refine J_cond_false rfl ?_
  refine J_seq ?_
  refine J_region ?_
  refine L_v (opv_move rfl) rfl ?_
  first
    | refine L_v (opv_lenL rfl) rfl ?_
    | refine L_v (opv_lenS rfl) rfl ?_
  refine L_v ((opv_gtr rfl rfl).bool_f hl) rfl ?_
  refine L_v (opv_assign rfl) rfl ?_
  refine L_nil ?_
  refine K_then ?_
  refine J_cond_false rfl ?_
  refine J_skip ?_
  refine K_block ?_
  refine K_then ?_
  refine J_seq ?_
  refine J_region ?_
  refine L_v (opv_move rfl) rfl ?_
  refine L_v (opv_move rfl) rfl ?_
  refine L_imp (sep (OutP p s m0 m1 d0 d1 cur) (F)) (OutP.fold2 x) ?_
  refine L_x rfl (opx_call0 (run_spec p s m0 m1 d0 d1 cur now (by omega) hok hn) rfl rfl rfl) (fun _ _ => ?_)
  refine L_ex fun x => ?_
  refine L_eq _ (sep_assoc _ _ _) ?_
  refine L_nil ?_
  refine K_then ?_
  refine J_seq ?_
  refine J_region ?_
  refine L_v (opv_move rfl) rfl ?_
  refine L_v (opv_move rfl) rfl ?_
  refine L_v (opv_build rfl) rfl ?_
  refine L_v (opv_move rfl) rfl ?_
  refine L_x rfl (opx_call0 (kind_false) rfl rfl rfl) (fun _ _ => ?_)
  refine L_emp ?_
  refine L_x rfl (opx_alloc rfl) (fun b12 _ => ?_)
  refine L_x rfl (opx_store rfl rfl rfl (by simp [Value.oneCell'])) (fun _ _ => ?_)
  refine L_v (opv_assign rfl) rfl ?_
  refine L_nil ?_
  refine K_then ?_
  refine J_seq ?_
  refine J_block ?_
  refine J_seq ?_
  rw [hbs]
  refine J_region ?_
  refine L_v (opv_move rfl) rfl ?_
  refine L_v (opv_nilCheck rfl) rfl ?_
  first
    | refine L_v (opv_fieldAddr0 rfl) rfl ?_
    | refine L_v (opv_fieldAddr rfl) rfl ?_
  refine L_v (opv_load rfl (Rd.look rfl)) rfl ?_
  refine L_v (opv_not rfl) rfl ?_
  refine L_v (opv_assign rfl) rfl ?_
  refine L_nil ?_
  refine K_then ?_
  refine J_cond_true rfl ?_
  refine J_region ?_
  refine L_v (opv_move rfl) rfl ?_
  refine L_v (opv_move rfl) rfl ?_
  refine L_v (opv_loadS rfl) rfl ?_
  refine L_x rfl (opx_call0 (begin_spec p (.slice x.1.1 (s.run now).h.length x.1.2) (.slice x.2.1.1 (s.run now).l.length x.2.1.2) (.int .i64 m0) (.int .i64 m1) (.int .i64 d0) (.int .i64 d1) (.slice x.2.2.1 (s.run now).out.length x.2.2.2) (.int .i64 now) false (s.run now).go now (⟨id, text⟩ : Wt) (by omega) (by show text.size ≤ 1518; omega)) rfl rfl rfl) (fun _ _ => ?_)
  refine L_nil ?_
  refine K_block ?_
  refine K_then ?_
  refine J_seq ?_
  refine J_region ?_
  refine L_v (opv_assign rfl) rfl ?_
  refine L_nil ?_
  refine K_then ?_
  refine J_ret ?_
  exact K_ret1 rfl rfl () trivial (rfl) (Ent.trans Ent.take (OutP.fold (s := ⟨(s.run now).h, (s.run now).l, true, ⟨id, text, now, now + ((text.size : Int) + 20)⟩, (s.run now).out⟩) x))

theorem QOffer_full_false (p : Nat) (s : QS) (m0 m1 d0 d1 cur now id : Int) (text : ByteArray) (hl : ¬ 1518 < (text.size : Int)) (h : tim cur now = 0) (hok : s.ok) (hn : s.out.length + s.wt ≤ 1000000) (hbs : (s.run now).b = true) (hf : m1 ≤ ((s.run now).l.length : Int)) (hd : -1000000000 ≤ d1 ∧ d1 ≤ 1000000000) : FSpec Try.prog 35 #[.pointer (some (ad p 0)), .int .i64 now, .bool false, .int .i64 id, .string text] (OutP p s m0 m1 d0 d1 cur) (fun _ : Unit => True) (fun _ => .int .i64 22) (fun _ => OutP p (s.run now) m0 m1 d0 (d1 + 1) now) := by
  have hb : 0 ≤ now ∧ now ≤ 1125899906842624 := tim_bd h
  refine FSpec.enter' Try.func35 rfl Try.ntmps35 rfl fun σ F => ?_
  refine J_ex fun x => ?_
  refine J_eq _ (sep_assoc _ _ _) ?_
  refine J_seq ?_
  refine J_region ?_
  refine L_v (opv_assign rfl) rfl ?_
  refine L_nil ?_
  refine K_then ?_
  refine J_seq ?_
  refine J_region ?_
  refine L_v (opv_move rfl) rfl ?_
  refine L_v (opv_move rfl) rfl ?_
  refine L_x rfl (opx_call0 (qtimely_cel p (.slice x.1.1 s.h.length x.1.2) (.slice x.2.1.1 s.l.length x.2.1.2) (.int .i64 m0) (.int .i64 m1) (.int .i64 d0) (.int .i64 d1) (.bool s.b) (.int .i64 s.go.id) (.string s.go.tx) (.int .i64 s.go.b) (.int .i64 s.go.e) (.slice x.2.2.1 s.out.length x.2.2.2) cur now) rfl rfl rfl) (fun _ _ => ?_)
  refine L_v (opv_assign rfl) rfl ?_
  refine L_nil ?_
  refine K_then ?_
  refine J_seq ?_
  refine J_block ?_
  refine J_seq ?_
  refine J_region ?_
  refine L_v (opv_move rfl) rfl ?_
  refine L_v ((opv_neq rfl rfl).bool_f (fun n => n h)) rfl ?_
  refine L_v (opv_assign rfl) rfl ?_
  refine L_nil ?_
  refine K_then ?_
  refine J_cond_false rfl ?_
  refine J_seq ?_
  refine J_region ?_
  refine L_v (opv_move rfl) rfl ?_
  first
    | refine L_v (opv_lenL rfl) rfl ?_
    | refine L_v (opv_lenS rfl) rfl ?_
  refine L_v ((opv_gtr rfl rfl).bool_f hl) rfl ?_
  refine L_v (opv_assign rfl) rfl ?_
  refine L_nil ?_
  refine K_then ?_
  refine J_cond_false rfl ?_
  refine J_skip ?_
  refine K_block ?_
  refine K_then ?_
  refine J_seq ?_
  refine J_region ?_
  refine L_v (opv_move rfl) rfl ?_
  refine L_v (opv_move rfl) rfl ?_
  refine L_imp (sep (OutP p s m0 m1 d0 d1 cur) (F)) (OutP.fold2 x) ?_
  refine L_x rfl (opx_call0 (run_spec p s m0 m1 d0 d1 cur now (by omega) hok hn) rfl rfl rfl) (fun _ _ => ?_)
  refine L_ex fun x => ?_
  refine L_eq _ (sep_assoc _ _ _) ?_
  refine L_nil ?_
  refine K_then ?_
  refine J_seq ?_
  refine J_region ?_
  refine L_v (opv_move rfl) rfl ?_
  refine L_v (opv_move rfl) rfl ?_
  refine L_v (opv_build rfl) rfl ?_
  refine L_v (opv_move rfl) rfl ?_
  refine L_x rfl (opx_call0 (kind_false) rfl rfl rfl) (fun _ _ => ?_)
  refine L_emp ?_
  refine L_x rfl (opx_alloc rfl) (fun b12 _ => ?_)
  refine L_x rfl (opx_store rfl rfl rfl (by simp [Value.oneCell'])) (fun _ _ => ?_)
  refine L_v (opv_assign rfl) rfl ?_
  refine L_nil ?_
  refine K_then ?_
  refine J_seq ?_
  refine J_block ?_
  refine J_seq ?_
  refine J_region ?_
  refine L_v (opv_move rfl) rfl ?_
  refine L_v (opv_nilCheck rfl) rfl ?_
  first
    | refine L_v (opv_fieldAddr0 rfl) rfl ?_
    | refine L_v (opv_fieldAddr rfl) rfl ?_
  refine L_v ((opv_load rfl (Rd.look rfl)).as (v' := .bool true) (by rw [hbs])) rfl ?_
  refine L_v (opv_not rfl) rfl ?_
  refine L_v (opv_assign rfl) rfl ?_
  refine L_nil ?_
  refine K_then ?_
  refine J_cond_false rfl ?_
  refine J_seq ?_
  refine J_quiet Try.mixed (by kernel_rfl) ?_
  refine Q_v (opv_move rfl) rfl ?_
  refine Q_v (opv_move rfl) rfl ?_
  refine Q_v (opv_nilCheck rfl) rfl ?_
  first
    | refine Q_v (opv_fieldAddr0 rfl) rfl ?_
    | refine Q_v (opv_fieldAddr rfl) rfl ?_
  refine Q_v ((opv_indexAddrA rfl rfl (by omega)).as (v' := .pointer (some (ad p 1))) rfl) rfl ?_
  refine Q_v (opv_load rfl (Rd.look rfl)) rfl ?_
  first
    | refine Q_v (opv_lenL rfl) rfl ?_
    | refine Q_v (opv_lenS rfl) rfl ?_
  refine Q_v (opv_move rfl) rfl ?_
  refine Q_v (opv_move rfl) rfl ?_
  refine Q_v (opv_nilCheck rfl) rfl ?_
  first
    | refine Q_v (opv_fieldAddr0 rfl) rfl ?_
    | refine Q_v (opv_fieldAddr rfl) rfl ?_
  refine Q_v ((opv_indexAddrA rfl rfl (by omega)).as (v' := .pointer (some (ad p 3))) rfl) rfl ?_
  refine Q_v (opv_load rfl (Rd.look rfl)) rfl ?_
  refine Q_v ((opv_geq rfl rfl).bool_t hf) rfl ?_
  refine Q_v (opv_assign rfl) rfl ?_
  refine QL_nil ?_
  refine K_then ?_
  refine J_cond_true rfl ?_
  refine J_seq ?_
  refine J_steps (emp) (cel p [.slice x.1.1 (s.run now).h.length x.1.2, .slice x.2.1.1 (s.run now).l.length x.2.1.2, .int .i64 m0, .int .i64 m1, .int .i64 d0, .int .i64 d1, .bool (s.run now).b, .int .i64 (s.run now).go.id, .string (s.run now).go.tx, .int .i64 (s.run now).go.b, .int .i64 (s.run now).go.e, .slice x.2.2.1 (s.run now).out.length x.2.2.2, .int .i64 now] 87) [10] Try.mixed ?_
  refine R_pure 0 rfl (by kernel_rfl) (by kernel_rfl) (by kernel_rfl) (by kernel_rfl) (.inr ⟨_, Take.eq (A := cel p [.slice x.1.1 (s.run now).h.length x.1.2, .slice x.2.1.1 (s.run now).l.length x.2.1.2, .int .i64 m0, .int .i64 m1, .int .i64 d0, .int .i64 d1, .bool (s.run now).b, .int .i64 (s.run now).go.id, .string (s.run now).go.tx, .int .i64 (s.run now).go.b, .int .i64 (s.run now).go.e, .slice x.2.2.1 (s.run now).out.length x.2.2.2, .int .i64 now] 87)⟩) (opv_move rfl) rfl ?_
  refine R_pure 1 rfl (by kernel_rfl) (by kernel_rfl) (by kernel_rfl) (by kernel_rfl) (.inr ⟨_, Take.eq (A := cel p [.slice x.1.1 (s.run now).h.length x.1.2, .slice x.2.1.1 (s.run now).l.length x.2.1.2, .int .i64 m0, .int .i64 m1, .int .i64 d0, .int .i64 d1, .bool (s.run now).b, .int .i64 (s.run now).go.id, .string (s.run now).go.tx, .int .i64 (s.run now).go.b, .int .i64 (s.run now).go.e, .slice x.2.2.1 (s.run now).out.length x.2.2.2, .int .i64 now] 87)⟩) (opv_move rfl) rfl ?_
  refine R_pure 2 rfl (by kernel_rfl) (by kernel_rfl) (by kernel_rfl) (by kernel_rfl) (.inr ⟨_, Take.eq (A := cel p [.slice x.1.1 (s.run now).h.length x.1.2, .slice x.2.1.1 (s.run now).l.length x.2.1.2, .int .i64 m0, .int .i64 m1, .int .i64 d0, .int .i64 d1, .bool (s.run now).b, .int .i64 (s.run now).go.id, .string (s.run now).go.tx, .int .i64 (s.run now).go.b, .int .i64 (s.run now).go.e, .slice x.2.2.1 (s.run now).out.length x.2.2.2, .int .i64 now] 87)⟩) (opv_nilCheck rfl) rfl ?_
  first
    | refine R_pure 3 rfl (by kernel_rfl) (by kernel_rfl) (by kernel_rfl) (by kernel_rfl) (.inr ⟨_, Take.eq (A := cel p [.slice x.1.1 (s.run now).h.length x.1.2, .slice x.2.1.1 (s.run now).l.length x.2.1.2, .int .i64 m0, .int .i64 m1, .int .i64 d0, .int .i64 d1, .bool (s.run now).b, .int .i64 (s.run now).go.id, .string (s.run now).go.tx, .int .i64 (s.run now).go.b, .int .i64 (s.run now).go.e, .slice x.2.2.1 (s.run now).out.length x.2.2.2, .int .i64 now] 87)⟩) (opv_fieldAddr0 rfl) rfl ?_
    | refine R_pure 3 rfl (by kernel_rfl) (by kernel_rfl) (by kernel_rfl) (by kernel_rfl) (.inr ⟨_, Take.eq (A := cel p [.slice x.1.1 (s.run now).h.length x.1.2, .slice x.2.1.1 (s.run now).l.length x.2.1.2, .int .i64 m0, .int .i64 m1, .int .i64 d0, .int .i64 d1, .bool (s.run now).b, .int .i64 (s.run now).go.id, .string (s.run now).go.tx, .int .i64 (s.run now).go.b, .int .i64 (s.run now).go.e, .slice x.2.2.1 (s.run now).out.length x.2.2.2, .int .i64 now] 87)⟩) (opv_fieldAddr rfl) rfl ?_
  refine R_pure 4 rfl (by kernel_rfl) (by kernel_rfl) (by kernel_rfl) (by kernel_rfl) (.inr ⟨_, Take.eq (A := cel p [.slice x.1.1 (s.run now).h.length x.1.2, .slice x.2.1.1 (s.run now).l.length x.2.1.2, .int .i64 m0, .int .i64 m1, .int .i64 d0, .int .i64 d1, .bool (s.run now).b, .int .i64 (s.run now).go.id, .string (s.run now).go.tx, .int .i64 (s.run now).go.b, .int .i64 (s.run now).go.e, .slice x.2.2.1 (s.run now).out.length x.2.2.2, .int .i64 now] 87)⟩) ((opv_indexAddrA rfl rfl (by omega)).as (v' := .pointer (some (ad p 5))) rfl) rfl ?_
  refine R_take 5 rfl (by kernel_rfl) (by kernel_rfl) (by kernel_rfl) (by kernel_rfl) (by kernel_rfl) (opv_load rfl (Rd.look rfl)) rfl ?_
  first
    | refine R_pure 6 rfl (by kernel_rfl) (by kernel_rfl) (by kernel_rfl) (by kernel_rfl) (.inr ⟨_, Take.eq (A := cel p [.slice x.1.1 (s.run now).h.length x.1.2, .slice x.2.1.1 (s.run now).l.length x.2.1.2, .int .i64 m0, .int .i64 m1, .int .i64 d0, .int .i64 d1, .bool (s.run now).b, .int .i64 (s.run now).go.id, .string (s.run now).go.tx, .int .i64 (s.run now).go.b, .int .i64 (s.run now).go.e, .slice x.2.2.1 (s.run now).out.length x.2.2.2, .int .i64 now] 87)⟩) (opv_add64 rfl rfl (by omega)) rfl ?_
    | refine R_pure 6 rfl (by kernel_rfl) (by kernel_rfl) (by kernel_rfl) (by kernel_rfl) (.inr ⟨_, Take.eq (A := cel p [.slice x.1.1 (s.run now).h.length x.1.2, .slice x.2.1.1 (s.run now).l.length x.2.1.2, .int .i64 m0, .int .i64 m1, .int .i64 d0, .int .i64 d1, .bool (s.run now).b, .int .i64 (s.run now).go.id, .string (s.run now).go.tx, .int .i64 (s.run now).go.b, .int .i64 (s.run now).go.e, .slice x.2.2.1 (s.run now).out.length x.2.2.2, .int .i64 now] 87)⟩) (opv_addS rfl rfl (by omega)) rfl ?_
    | refine R_pure 6 rfl (by kernel_rfl) (by kernel_rfl) (by kernel_rfl) (by kernel_rfl) (.inr ⟨_, Take.eq (A := cel p [.slice x.1.1 (s.run now).h.length x.1.2, .slice x.2.1.1 (s.run now).l.length x.2.1.2, .int .i64 m0, .int .i64 m1, .int .i64 d0, .int .i64 d1, .bool (s.run now).b, .int .i64 (s.run now).go.id, .string (s.run now).go.tx, .int .i64 (s.run now).go.b, .int .i64 (s.run now).go.e, .slice x.2.2.1 (s.run now).out.length x.2.2.2, .int .i64 now] 87)⟩) (opv_add rfl rfl) rfl ?_
  refine R_pure 7 rfl (by kernel_rfl) (by kernel_rfl) (by kernel_rfl) (by kernel_rfl) (.inr ⟨_, Take.eq (A := cel p [.slice x.1.1 (s.run now).h.length x.1.2, .slice x.2.1.1 (s.run now).l.length x.2.1.2, .int .i64 m0, .int .i64 m1, .int .i64 d0, .int .i64 d1, .bool (s.run now).b, .int .i64 (s.run now).go.id, .string (s.run now).go.tx, .int .i64 (s.run now).go.b, .int .i64 (s.run now).go.e, .slice x.2.2.1 (s.run now).out.length x.2.2.2, .int .i64 now] 87)⟩) (opv_nilCheck rfl) rfl ?_
  first
    | refine R_pure 8 rfl (by kernel_rfl) (by kernel_rfl) (by kernel_rfl) (by kernel_rfl) (.inr ⟨_, Take.eq (A := cel p [.slice x.1.1 (s.run now).h.length x.1.2, .slice x.2.1.1 (s.run now).l.length x.2.1.2, .int .i64 m0, .int .i64 m1, .int .i64 d0, .int .i64 d1, .bool (s.run now).b, .int .i64 (s.run now).go.id, .string (s.run now).go.tx, .int .i64 (s.run now).go.b, .int .i64 (s.run now).go.e, .slice x.2.2.1 (s.run now).out.length x.2.2.2, .int .i64 now] 87)⟩) (opv_fieldAddr0 rfl) rfl ?_
    | refine R_pure 8 rfl (by kernel_rfl) (by kernel_rfl) (by kernel_rfl) (by kernel_rfl) (.inr ⟨_, Take.eq (A := cel p [.slice x.1.1 (s.run now).h.length x.1.2, .slice x.2.1.1 (s.run now).l.length x.2.1.2, .int .i64 m0, .int .i64 m1, .int .i64 d0, .int .i64 d1, .bool (s.run now).b, .int .i64 (s.run now).go.id, .string (s.run now).go.tx, .int .i64 (s.run now).go.b, .int .i64 (s.run now).go.e, .slice x.2.2.1 (s.run now).out.length x.2.2.2, .int .i64 now] 87)⟩) (opv_fieldAddr rfl) rfl ?_
  refine R_pure 9 rfl (by kernel_rfl) (by kernel_rfl) (by kernel_rfl) (by kernel_rfl) (.inr ⟨_, Take.eq (A := cel p [.slice x.1.1 (s.run now).h.length x.1.2, .slice x.2.1.1 (s.run now).l.length x.2.1.2, .int .i64 m0, .int .i64 m1, .int .i64 d0, .int .i64 d1, .bool (s.run now).b, .int .i64 (s.run now).go.id, .string (s.run now).go.tx, .int .i64 (s.run now).go.b, .int .i64 (s.run now).go.e, .slice x.2.2.1 (s.run now).out.length x.2.2.2, .int .i64 now] 87)⟩) ((opv_indexAddrA rfl rfl (by omega)).as (v' := .pointer (some (ad p 5))) rfl) rfl ?_
  refine R_only 10 rfl rfl (by kernel_rfl) (opx_store rfl rfl rfl (by simp [Value.oneCell'])) (fun _ _ => ⟨_, Take.eq (A := emp)⟩) (.inl (by kernel_rfl)) (fun _ _ => ?_)
  refine R_done (by kernel_rfl) ?_
  refine K_then ?_
  refine J_seq ?_
  refine J_region ?_
  refine L_v (opv_assign rfl) rfl ?_
  refine L_nil ?_
  refine K_then ?_
  refine J_ret ?_
  refine K_block_ret ?_
  refine K_then_ret ?_
  exact K_ret1 rfl rfl () trivial (rfl) (Ent.trans Ent.take (OutP.fold (s := (s.run now)) x))

theorem QOffer_wait_false (p : Nat) (s : QS) (m0 m1 d0 d1 cur now id : Int) (text : ByteArray) (hl : ¬ 1518 < (text.size : Int)) (h : tim cur now = 0) (hok : s.ok) (hn : s.out.length + s.wt ≤ 1000000) (hbs : (s.run now).b = true) (hf : ¬ m1 ≤ ((s.run now).l.length : Int)) (hm : m1 ≤ 1000000) : FSpec Try.prog 35 #[.pointer (some (ad p 0)), .int .i64 now, .bool false, .int .i64 id, .string text] (OutP p s m0 m1 d0 d1 cur) (fun _ : Unit => True) (fun _ => .int .i64 0) (fun _ => OutP p { (s.run now) with l := (s.run now).l ++ [(⟨id, text⟩ : Wt)] } m0 m1 d0 d1 now) := by
  have hb : 0 ≤ now ∧ now ≤ 1125899906842624 := tim_bd h
  refine FSpec.enter' Try.func35 rfl Try.ntmps35 rfl fun σ F => ?_
  refine J_ex fun x => ?_
  refine J_eq _ (sep_assoc _ _ _) ?_
  refine J_seq ?_
  refine J_region ?_
  refine L_v (opv_assign rfl) rfl ?_
  refine L_nil ?_
  refine K_then ?_
  refine J_seq ?_
  refine J_region ?_
  refine L_v (opv_move rfl) rfl ?_
  refine L_v (opv_move rfl) rfl ?_
  refine L_x rfl (opx_call0 (qtimely_cel p (.slice x.1.1 s.h.length x.1.2) (.slice x.2.1.1 s.l.length x.2.1.2) (.int .i64 m0) (.int .i64 m1) (.int .i64 d0) (.int .i64 d1) (.bool s.b) (.int .i64 s.go.id) (.string s.go.tx) (.int .i64 s.go.b) (.int .i64 s.go.e) (.slice x.2.2.1 s.out.length x.2.2.2) cur now) rfl rfl rfl) (fun _ _ => ?_)
  refine L_v (opv_assign rfl) rfl ?_
  refine L_nil ?_
  refine K_then ?_
  refine J_seq ?_
  refine J_block ?_
  refine J_seq ?_
  refine J_region ?_
  refine L_v (opv_move rfl) rfl ?_
  refine L_v ((opv_neq rfl rfl).bool_f (fun n => n h)) rfl ?_
  refine L_v (opv_assign rfl) rfl ?_
  refine L_nil ?_
  refine K_then ?_
  refine J_cond_false rfl ?_
  refine J_seq ?_
  refine J_region ?_
  refine L_v (opv_move rfl) rfl ?_
  first
    | refine L_v (opv_lenL rfl) rfl ?_
    | refine L_v (opv_lenS rfl) rfl ?_
  refine L_v ((opv_gtr rfl rfl).bool_f hl) rfl ?_
  refine L_v (opv_assign rfl) rfl ?_
  refine L_nil ?_
  refine K_then ?_
  refine J_cond_false rfl ?_
  refine J_skip ?_
  refine K_block ?_
  refine K_then ?_
  refine J_seq ?_
  refine J_region ?_
  refine L_v (opv_move rfl) rfl ?_
  refine L_v (opv_move rfl) rfl ?_
  refine L_imp (sep (OutP p s m0 m1 d0 d1 cur) (F)) (OutP.fold2 x) ?_
  refine L_x rfl (opx_call0 (run_spec p s m0 m1 d0 d1 cur now (by omega) hok hn) rfl rfl rfl) (fun _ _ => ?_)
  refine L_ex fun x => ?_
  refine L_eq _ (sep_assoc _ _ _) ?_
  refine L_nil ?_
  refine K_then ?_
  refine J_seq ?_
  refine J_region ?_
  refine L_v (opv_move rfl) rfl ?_
  refine L_v (opv_move rfl) rfl ?_
  refine L_v (opv_build rfl) rfl ?_
  refine L_v (opv_move rfl) rfl ?_
  refine L_x rfl (opx_call0 (kind_false) rfl rfl rfl) (fun _ _ => ?_)
  refine L_emp ?_
  refine L_x rfl (opx_alloc rfl) (fun b12 _ => ?_)
  refine L_x rfl (opx_store rfl rfl rfl (by simp [Value.oneCell'])) (fun _ _ => ?_)
  refine L_v (opv_assign rfl) rfl ?_
  refine L_nil ?_
  refine K_then ?_
  refine J_seq ?_
  refine J_block ?_
  refine J_seq ?_
  refine J_region ?_
  refine L_v (opv_move rfl) rfl ?_
  refine L_v (opv_nilCheck rfl) rfl ?_
  first
    | refine L_v (opv_fieldAddr0 rfl) rfl ?_
    | refine L_v (opv_fieldAddr rfl) rfl ?_
  refine L_v ((opv_load rfl (Rd.look rfl)).as (v' := .bool true) (by rw [hbs])) rfl ?_
  refine L_v (opv_not rfl) rfl ?_
  refine L_v (opv_assign rfl) rfl ?_
  refine L_nil ?_
  refine K_then ?_
  refine J_cond_false rfl ?_
  refine J_seq ?_
  refine J_quiet Try.mixed (by kernel_rfl) ?_
  refine Q_v (opv_move rfl) rfl ?_
  refine Q_v (opv_move rfl) rfl ?_
  refine Q_v (opv_nilCheck rfl) rfl ?_
  first
    | refine Q_v (opv_fieldAddr0 rfl) rfl ?_
    | refine Q_v (opv_fieldAddr rfl) rfl ?_
  refine Q_v ((opv_indexAddrA rfl rfl (by omega)).as (v' := .pointer (some (ad p 1))) rfl) rfl ?_
  refine Q_v (opv_load rfl (Rd.look rfl)) rfl ?_
  first
    | refine Q_v (opv_lenL rfl) rfl ?_
    | refine Q_v (opv_lenS rfl) rfl ?_
  refine Q_v (opv_move rfl) rfl ?_
  refine Q_v (opv_move rfl) rfl ?_
  refine Q_v (opv_nilCheck rfl) rfl ?_
  first
    | refine Q_v (opv_fieldAddr0 rfl) rfl ?_
    | refine Q_v (opv_fieldAddr rfl) rfl ?_
  refine Q_v ((opv_indexAddrA rfl rfl (by omega)).as (v' := .pointer (some (ad p 3))) rfl) rfl ?_
  refine Q_v (opv_load rfl (Rd.look rfl)) rfl ?_
  refine Q_v ((opv_geq rfl rfl).bool_f hf) rfl ?_
  refine Q_v (opv_assign rfl) rfl ?_
  refine QL_nil ?_
  refine K_then ?_
  refine J_cond_false rfl ?_
  refine J_steps (cel b12 [.int .i64 id, .string text] 90) ((sep (cel b12 [.int .i64 id, .string text] 90) (cel p [.slice x.1.1 (s.run now).h.length x.1.2, .slice x.2.1.1 (s.run now).l.length x.2.1.2, .int .i64 m0, .int .i64 m1, .int .i64 d0, .int .i64 d1, .bool (s.run now).b, .int .i64 (s.run now).go.id, .string (s.run now).go.tx, .int .i64 (s.run now).go.b, .int .i64 (s.run now).go.e, .slice x.2.2.1 (s.run now).out.length x.2.2.2, .int .i64 now] 87))) [14] Try.mixed ?_
  refine R_pure 0 rfl (by kernel_rfl) (by kernel_rfl) (by kernel_rfl) (by kernel_rfl) (.inr ⟨_, Take.eq (A := (sep (cel b12 [.int .i64 id, .string text] 90) (cel p [.slice x.1.1 (s.run now).h.length x.1.2, .slice x.2.1.1 (s.run now).l.length x.2.1.2, .int .i64 m0, .int .i64 m1, .int .i64 d0, .int .i64 d1, .bool (s.run now).b, .int .i64 (s.run now).go.id, .string (s.run now).go.tx, .int .i64 (s.run now).go.b, .int .i64 (s.run now).go.e, .slice x.2.2.1 (s.run now).out.length x.2.2.2, .int .i64 now] 87)))⟩) (opv_move rfl) rfl ?_
  refine R_pure 1 rfl (by kernel_rfl) (by kernel_rfl) (by kernel_rfl) (by kernel_rfl) (.inr ⟨_, Take.eq (A := (sep (cel b12 [.int .i64 id, .string text] 90) (cel p [.slice x.1.1 (s.run now).h.length x.1.2, .slice x.2.1.1 (s.run now).l.length x.2.1.2, .int .i64 m0, .int .i64 m1, .int .i64 d0, .int .i64 d1, .bool (s.run now).b, .int .i64 (s.run now).go.id, .string (s.run now).go.tx, .int .i64 (s.run now).go.b, .int .i64 (s.run now).go.e, .slice x.2.2.1 (s.run now).out.length x.2.2.2, .int .i64 now] 87)))⟩) (opv_move rfl) rfl ?_
  refine R_pure 2 rfl (by kernel_rfl) (by kernel_rfl) (by kernel_rfl) (by kernel_rfl) (.inr ⟨_, Take.eq (A := (sep (cel b12 [.int .i64 id, .string text] 90) (cel p [.slice x.1.1 (s.run now).h.length x.1.2, .slice x.2.1.1 (s.run now).l.length x.2.1.2, .int .i64 m0, .int .i64 m1, .int .i64 d0, .int .i64 d1, .bool (s.run now).b, .int .i64 (s.run now).go.id, .string (s.run now).go.tx, .int .i64 (s.run now).go.b, .int .i64 (s.run now).go.e, .slice x.2.2.1 (s.run now).out.length x.2.2.2, .int .i64 now] 87)))⟩) (opv_move rfl) rfl ?_
  refine R_pure 3 rfl (by kernel_rfl) (by kernel_rfl) (by kernel_rfl) (by kernel_rfl) (.inr ⟨_, Take.eq (A := (sep (cel b12 [.int .i64 id, .string text] 90) (cel p [.slice x.1.1 (s.run now).h.length x.1.2, .slice x.2.1.1 (s.run now).l.length x.2.1.2, .int .i64 m0, .int .i64 m1, .int .i64 d0, .int .i64 d1, .bool (s.run now).b, .int .i64 (s.run now).go.id, .string (s.run now).go.tx, .int .i64 (s.run now).go.b, .int .i64 (s.run now).go.e, .slice x.2.2.1 (s.run now).out.length x.2.2.2, .int .i64 now] 87)))⟩) (opv_move rfl) rfl ?_
  refine R_pure 4 rfl (by kernel_rfl) (by kernel_rfl) (by kernel_rfl) (by kernel_rfl) (.inr ⟨_, Take.eq (A := (sep (cel b12 [.int .i64 id, .string text] 90) (cel p [.slice x.1.1 (s.run now).h.length x.1.2, .slice x.2.1.1 (s.run now).l.length x.2.1.2, .int .i64 m0, .int .i64 m1, .int .i64 d0, .int .i64 d1, .bool (s.run now).b, .int .i64 (s.run now).go.id, .string (s.run now).go.tx, .int .i64 (s.run now).go.b, .int .i64 (s.run now).go.e, .slice x.2.2.1 (s.run now).out.length x.2.2.2, .int .i64 now] 87)))⟩) (opv_nilCheck rfl) rfl ?_
  first
    | refine R_pure 5 rfl (by kernel_rfl) (by kernel_rfl) (by kernel_rfl) (by kernel_rfl) (.inr ⟨_, Take.eq (A := (sep (cel b12 [.int .i64 id, .string text] 90) (cel p [.slice x.1.1 (s.run now).h.length x.1.2, .slice x.2.1.1 (s.run now).l.length x.2.1.2, .int .i64 m0, .int .i64 m1, .int .i64 d0, .int .i64 d1, .bool (s.run now).b, .int .i64 (s.run now).go.id, .string (s.run now).go.tx, .int .i64 (s.run now).go.b, .int .i64 (s.run now).go.e, .slice x.2.2.1 (s.run now).out.length x.2.2.2, .int .i64 now] 87)))⟩) (opv_fieldAddr0 rfl) rfl ?_
    | refine R_pure 5 rfl (by kernel_rfl) (by kernel_rfl) (by kernel_rfl) (by kernel_rfl) (.inr ⟨_, Take.eq (A := (sep (cel b12 [.int .i64 id, .string text] 90) (cel p [.slice x.1.1 (s.run now).h.length x.1.2, .slice x.2.1.1 (s.run now).l.length x.2.1.2, .int .i64 m0, .int .i64 m1, .int .i64 d0, .int .i64 d1, .bool (s.run now).b, .int .i64 (s.run now).go.id, .string (s.run now).go.tx, .int .i64 (s.run now).go.b, .int .i64 (s.run now).go.e, .slice x.2.2.1 (s.run now).out.length x.2.2.2, .int .i64 now] 87)))⟩) (opv_fieldAddr rfl) rfl ?_
  refine R_pure 6 rfl (by kernel_rfl) (by kernel_rfl) (by kernel_rfl) (by kernel_rfl) (.inr ⟨_, Take.eq (A := (sep (cel b12 [.int .i64 id, .string text] 90) (cel p [.slice x.1.1 (s.run now).h.length x.1.2, .slice x.2.1.1 (s.run now).l.length x.2.1.2, .int .i64 m0, .int .i64 m1, .int .i64 d0, .int .i64 d1, .bool (s.run now).b, .int .i64 (s.run now).go.id, .string (s.run now).go.tx, .int .i64 (s.run now).go.b, .int .i64 (s.run now).go.e, .slice x.2.2.1 (s.run now).out.length x.2.2.2, .int .i64 now] 87)))⟩) ((opv_indexAddrA rfl rfl (by omega)).as (v' := .pointer (some (ad p 1))) rfl) rfl ?_
  refine R_take 7 rfl (by kernel_rfl) (by kernel_rfl) (by kernel_rfl) (by kernel_rfl) (by kernel_rfl) (opv_load rfl (Rd.look rfl)) rfl ?_
  refine R_take 8 rfl (by kernel_rfl) (by kernel_rfl) (by kernel_rfl) (by kernel_rfl) (by kernel_rfl) (opv_loadS rfl) rfl ?_
  refine R_pure 11 rfl (by kernel_rfl) (by kernel_rfl) (by kernel_rfl) (by kernel_rfl) (.inr ⟨_, Take.eq (A := (sep (cel b12 [.int .i64 id, .string text] 90) (cel p [.slice x.1.1 (s.run now).h.length x.1.2, .slice x.2.1.1 (s.run now).l.length x.2.1.2, .int .i64 m0, .int .i64 m1, .int .i64 d0, .int .i64 d1, .bool (s.run now).b, .int .i64 (s.run now).go.id, .string (s.run now).go.tx, .int .i64 (s.run now).go.b, .int .i64 (s.run now).go.e, .slice x.2.2.1 (s.run now).out.length x.2.2.2, .int .i64 now] 87)))⟩) (opv_nilCheck rfl) rfl ?_
  first
    | refine R_pure 12 rfl (by kernel_rfl) (by kernel_rfl) (by kernel_rfl) (by kernel_rfl) (.inr ⟨_, Take.eq (A := (sep (cel b12 [.int .i64 id, .string text] 90) (cel p [.slice x.1.1 (s.run now).h.length x.1.2, .slice x.2.1.1 (s.run now).l.length x.2.1.2, .int .i64 m0, .int .i64 m1, .int .i64 d0, .int .i64 d1, .bool (s.run now).b, .int .i64 (s.run now).go.id, .string (s.run now).go.tx, .int .i64 (s.run now).go.b, .int .i64 (s.run now).go.e, .slice x.2.2.1 (s.run now).out.length x.2.2.2, .int .i64 now] 87)))⟩) (opv_fieldAddr0 rfl) rfl ?_
    | refine R_pure 12 rfl (by kernel_rfl) (by kernel_rfl) (by kernel_rfl) (by kernel_rfl) (.inr ⟨_, Take.eq (A := (sep (cel b12 [.int .i64 id, .string text] 90) (cel p [.slice x.1.1 (s.run now).h.length x.1.2, .slice x.2.1.1 (s.run now).l.length x.2.1.2, .int .i64 m0, .int .i64 m1, .int .i64 d0, .int .i64 d1, .bool (s.run now).b, .int .i64 (s.run now).go.id, .string (s.run now).go.tx, .int .i64 (s.run now).go.b, .int .i64 (s.run now).go.e, .slice x.2.2.1 (s.run now).out.length x.2.2.2, .int .i64 now] 87)))⟩) (opv_fieldAddr rfl) rfl ?_
  refine R_only 9 rfl rfl (by kernel_rfl) (opx_buildSlice1 (m := 2) rfl rfl (by omega) (by omega) rfl) (fun _ _ => ⟨_, Take.eq (A := cel b12 [.int .i64 id, .string text] 90)⟩) (.inr fun _ _ => ⟨_, Take.eq (A := (sep (cel b12 [.int .i64 id, .string text] 90) (cel p [.slice x.1.1 (s.run now).h.length x.1.2, .slice x.2.1.1 (s.run now).l.length x.2.1.2, .int .i64 m0, .int .i64 m1, .int .i64 d0, .int .i64 d1, .bool (s.run now).b, .int .i64 (s.run now).go.id, .string (s.run now).go.tx, .int .i64 (s.run now).go.b, .int .i64 (s.run now).go.e, .slice x.2.2.1 (s.run now).out.length x.2.2.2, .int .i64 now] 87)))⟩) (fun b42 _ => ?_)
  refine R_only 10 rfl rfl (by kernel_rfl) (opx_append (m := 2) (B := 24) rfl rfl (Src.lit) rfl (by omega) rfl (by simp [Value.oneCell']) (by unfold maxLen; omega) (by omega) rfl) (fun _ _ => ⟨_, Take.eq (A := cel b12 [.int .i64 id, .string text] 90)⟩) (.inr fun _ _ => ⟨_, Take.eq (A := (sep (cel b12 [.int .i64 id, .string text] 90) (cel p [.slice x.1.1 (s.run now).h.length x.1.2, .slice x.2.1.1 (s.run now).l.length x.2.1.2, .int .i64 m0, .int .i64 m1, .int .i64 d0, .int .i64 d1, .bool (s.run now).b, .int .i64 (s.run now).go.id, .string (s.run now).go.tx, .int .i64 (s.run now).go.b, .int .i64 (s.run now).go.e, .slice x.2.2.1 (s.run now).out.length x.2.2.2, .int .i64 now] 87)))⟩) (fun y43 _ => ?_)
  refine R_pure 13 rfl (by kernel_rfl) (by kernel_rfl) (by kernel_rfl) (by kernel_rfl) (.inr ⟨_, Take.eq (A := (sep (cel b12 [.int .i64 id, .string text] 90) (cel p [.slice x.1.1 (s.run now).h.length x.1.2, .slice x.2.1.1 (s.run now).l.length x.2.1.2, .int .i64 m0, .int .i64 m1, .int .i64 d0, .int .i64 d1, .bool (s.run now).b, .int .i64 (s.run now).go.id, .string (s.run now).go.tx, .int .i64 (s.run now).go.b, .int .i64 (s.run now).go.e, .slice x.2.2.1 (s.run now).out.length x.2.2.2, .int .i64 now] 87)))⟩) ((opv_indexAddrA rfl rfl (by omega)).as (v' := .pointer (some (ad p 1))) rfl) rfl ?_
  refine R_only 14 rfl rfl (by kernel_rfl) (opx_store rfl rfl rfl (by simp [Value.oneCell'])) (fun _ _ => ⟨_, Take.eq (A := cel b12 [.int .i64 id, .string text] 90)⟩) (.inl (by kernel_rfl)) (fun _ _ => ?_)
  refine R_done (by kernel_rfl) ?_
  refine K_block ?_
  refine K_then ?_
  refine J_seq ?_
  refine J_region ?_
  refine L_v (opv_assign rfl) rfl ?_
  refine L_nil ?_
  refine K_then ?_
  refine J_ret ?_
  have hfl : flatW (s.run now).l ++ [.int .i64 id, .string text] = flatW ((s.run now).l ++ [(⟨id, text⟩ : Wt)]) := flatW_snoc (s.run now).l (⟨id, text⟩ : Wt)
  rw [hfl, show (s.run now).l.length + 1 = ((s.run now).l ++ [(⟨id, text⟩ : Wt)]).length by simp]
  exact K_ret1 rfl rfl () trivial (rfl) (Ent.trans Ent.take (OutP.fold (s := ⟨(s.run now).h, (s.run now).l ++ [(⟨id, text⟩ : Wt)], (s.run now).b, (s.run now).go, (s.run now).out⟩) (x.1, y43, x.2.2)))

end Go.Proofs.Ytpnpdliimidoaaa
