/- What all calls make of a wire (package pitotlaw19): contracts of its right, bytes, awake and gone, and what is true of all that goes; they are used by the texts that import this one. -/
import Derived.Test.YtpnpdliimidoaaaQd
import Derived.Test.YtpnpdliimidoaaaH
namespace Go.Proofs.Ytpnpdliimidoaaa
open Go.SLA
set_option maxRecDepth 100000
set_option linter.unusedVariables false
set_option linter.unusedSimpArgs false
attribute [local irreducible] J L K QL Rg FSpec OpV OpX Rd Back
attribute [local irreducible] xs

def qa1 : QS := ⟨[], [], true, ⟨1, xs 80, 0, 100⟩, []⟩
def qa2 : QS := ⟨[], [⟨2, xs 10⟩], true, ⟨1, xs 80, 0, 100⟩, []⟩
def qa3 : QS := ⟨[⟨3, xs 10⟩], [⟨2, xs 10⟩], true, ⟨1, xs 80, 0, 100⟩, []⟩
def qaL : List Sn := [⟨1, xs 80, 0, 100⟩, ⟨3, xs 10, 100, 130⟩, ⟨2, xs 10, 130, 160⟩]
def qa4 : QS := ⟨[], [], false, ⟨2, xs 10, 130, 160⟩, qaL⟩
theorem goes_a : goes ⟨1, xs 80⟩ 0 = ⟨1, xs 80, 0, 100⟩ := by unfold goes; rw [xs_size]; rfl
theorem goes_b : goes ⟨3, xs 10⟩ 100 = ⟨3, xs 10, 100, 130⟩ := by unfold goes; rw [xs_size]; rfl
theorem goes_c : goes ⟨2, xs 10⟩ 130 = ⟨2, xs 10, 130, 160⟩ := by unfold goes; rw [xs_size]; rfl
theorem qa0_run : qs0.run 0 = qs0 := QS.run_b (fun h => by cases h.1)
theorem qa1_run : qa1.run 1 = qa1 := QS.run_b (fun h => absurd h.2 (by show ¬ (100 : Int) ≤ 1; decide))
theorem qa2_run : qa2.run 2 = qa2 := QS.run_b (fun h => absurd h.2 (by show ¬ (100 : Int) ≤ 2; decide))
theorem qa3_run : qa3.run 1000 = qa4 := by
  have e1 : qa3.step = ⟨[], [⟨2, xs 10⟩], true, ⟨3, xs 10, 100, 130⟩, [⟨1, xs 80, 0, 100⟩]⟩ := by rw [← goes_b]; rfl
  have e2 : QS.step ⟨[], [⟨2, xs 10⟩], true, ⟨3, xs 10, 100, 130⟩, [⟨1, xs 80, 0, 100⟩]⟩ = ⟨[], [], true, ⟨2, xs 10, 130, 160⟩, [⟨1, xs 80, 0, 100⟩, ⟨3, xs 10, 100, 130⟩]⟩ := by rw [← goes_c]; rfl
  have e3 : QS.step ⟨[], [], true, ⟨2, xs 10, 130, 160⟩, [⟨1, xs 80, 0, 100⟩, ⟨3, xs 10, 100, 130⟩]⟩ = qa4 := rfl
  rw [QS.run_a ⟨rfl, by show (100 : Int) ≤ 1000; decide⟩, e1, QS.run_a ⟨rfl, by show (130 : Int) ≤ 1000; decide⟩, e2, QS.run_a ⟨rfl, by show (160 : Int) ≤ 1000; decide⟩, e3]
  exact QS.run_b (fun h => by cases h.1)
theorem xs80_le : ¬ 1518 < ((xs 80).size : Int) := by rw [xs_size]; decide
theorem xs10_le : ¬ 1518 < ((xs 10).size : Int) := by rw [xs_size]; decide
theorem qa1_ok : qa1.ok := ⟨fun w hw => (by rcases hw with hw | hw <;> cases hw), by show (0 : Int) ≤ 100; decide⟩
theorem qa2_ok : qa2.ok := ⟨fun w hw => (by
  rcases hw with hw | hw
  · cases hw
  · rw [List.mem_singleton.1 hw]; show (xs 10).size ≤ 1518; rw [xs_size]; decide), by show (0 : Int) ≤ 100; decide⟩
theorem qa3_ok : qa3.ok := ⟨fun w hw => (by
  rcases hw with hw | hw
  · rw [List.mem_singleton.1 hw]; show (xs 10).size ≤ 1518; rw [xs_size]; decide
  · rw [List.mem_singleton.1 hw]; show (xs 10).size ≤ 1518; rw [xs_size]; decide), by show (0 : Int) ≤ 100; decide⟩
theorem qawake_1 (p : Nat) : FSpec Try.prog 35 #[.pointer (some (ad p 0)), .int .i64 0, .bool false, .int .i64 1, .string (xs 80)] (OutP p qs0 5 5 0 0 0) (fun _ : Unit => True) (fun _ => .int .i64 0) (fun _ => OutP p qa1 5 5 0 0 0) := by
  have := QOffer_go_false p qs0 5 5 0 0 0 0 1 (xs 80) xs80_le (by decide) qs0_ok (by decide) (by rw [qa0_run]; rfl)
  rw [qa0_run, goes_a] at this
  exact this
theorem qawake_2 (p : Nat) : FSpec Try.prog 35 #[.pointer (some (ad p 0)), .int .i64 1, .bool false, .int .i64 2, .string (xs 10)] (OutP p qa1 5 5 0 0 0) (fun _ : Unit => True) (fun _ => .int .i64 0) (fun _ => OutP p qa2 5 5 0 0 1) := by
  have := QOffer_wait_false p qa1 5 5 0 0 0 1 2 (xs 10) xs10_le (by decide) qa1_ok (by decide) (by rw [qa1_run]; rfl) (by rw [qa1_run]; decide) (by decide)
  rw [qa1_run] at this
  exact this
theorem qawake_3 (p : Nat) : FSpec Try.prog 35 #[.pointer (some (ad p 0)), .int .i64 2, .bool true, .int .i64 3, .string (xs 10)] (OutP p qa2 5 5 0 0 1) (fun _ : Unit => True) (fun _ => .int .i64 0) (fun _ => OutP p qa3 5 5 0 0 2) := by
  have := QOffer_wait_true p qa2 5 5 0 0 1 2 3 (xs 10) xs10_le (by decide) qa2_ok (by decide) (by rw [qa2_run]; rfl) (by rw [qa2_run]; decide) (by decide)
  rw [qa2_run] at this
  exact this
theorem qawake_4 (p : Nat) : FSpec Try.prog 32 #[.pointer (some (ad p 0)), .int .i64 1000] (OutP p qa3 5 5 0 0 2) (fun _ : Hd => True) (fun r => .tuple #[.slice r.1 qaL.length r.2, .int .i64 0]) (fun r => (sep (OutP p { qa4 with out := [] } 5 5 0 0 1000) (Own 30 4 (.slice r.1 qaL.length r.2) qaL.length (flat qaL)))) := by
  have := QPass_ok p qa3 5 5 0 0 2 1000 (by decide) qa3_ok (by decide)
  rw [qa3_run] at this
  exact this

theorem qawake_spec  : FSpec Try.prog 28 #[] (emp) (fun _ : Unit => True) (fun _ => .bool true) (fun _ => emp) := by
  refine FSpec.enter' Try.func28 rfl Try.ntmps28 rfl fun σ F => ?_
  refine J_emp ?_
  refine J_seq ?_
  refine J_region ?_
  refine L_v (opv_assign rfl) rfl ?_
  refine L_nil ?_
  refine K_then ?_
  refine J_seq ?_
  refine J_region ?_
  refine L_x rfl (opx_call0 (QNew_ok 5 5 (by decide) (by decide)) rfl rfl rfl) (fun p _ => ?_)
  refine L_v (opv_move rfl) rfl ?_
  refine L_v (opv_extract rfl rfl) rfl ?_
  refine L_v (opv_extract rfl rfl) rfl ?_
  refine L_v (opv_assign rfl) rfl ?_
  refine L_v (opv_assign rfl) rfl ?_
  refine L_nil ?_
  refine K_then ?_
  refine J_seq ?_
  refine J_seq ?_
  refine J_region ?_
  refine L_v (opv_move rfl) rfl ?_
  refine L_v ((opv_neq rfl rfl).bool_f (by decide)) rfl ?_
  refine L_v (opv_move rfl) rfl ?_
  refine L_gon rfl rfl rfl ?_
  refine L_v (opv_move rfl) rfl ?_
  refine L_gon rfl rfl rfl ?_
  first
    | refine L_v (opv_eql rfl rfl) rfl ?_
    | refine L_v (opv_eqlS rfl rfl) rfl ?_
    | refine L_v (opv_eqlNil rfl rfl) rfl ?_
    | refine L_v (opv_eqlB rfl rfl) rfl ?_
  first
    | refine L_v (opv_pick_tt rfl rfl) rfl ?_
    | refine L_v (opv_pick_ff rfl rfl) rfl ?_
    | refine L_v (opv_pick rfl rfl rfl) rfl ?_
  refine L_nil ?_
  refine K_then ?_
  refine J_cond_false rfl ?_
  refine J_skip ?_
  refine K_then ?_
  refine J_seq ?_
  refine J_region ?_
  refine L_v (opv_move rfl) rfl ?_
  refine L_x rfl (opx_call0 (bytes19_spec 80 (by decide)) rfl rfl rfl) (fun _ _ => ?_)
  refine L_emp ?_
  refine L_x rfl (opx_call0 (qawake_1 p) rfl rfl rfl) (fun _ _ => ?_)
  refine L_nil ?_
  refine K_then ?_
  refine J_seq ?_
  refine J_region ?_
  refine L_v (opv_move rfl) rfl ?_
  refine L_x rfl (opx_call0 (bytes19_spec 10 (by decide)) rfl rfl rfl) (fun _ _ => ?_)
  refine L_emp ?_
  refine L_x rfl (opx_call0 (qawake_2 p) rfl rfl rfl) (fun _ _ => ?_)
  refine L_nil ?_
  refine K_then ?_
  refine J_seq ?_
  refine J_region ?_
  refine L_v (opv_move rfl) rfl ?_
  refine L_x rfl (opx_call0 (bytes19_spec 10 (by decide)) rfl rfl rfl) (fun _ _ => ?_)
  refine L_emp ?_
  refine L_x rfl (opx_call0 (qawake_3 p) rfl rfl rfl) (fun _ _ => ?_)
  refine L_nil ?_
  refine K_then ?_
  refine J_seq ?_
  refine J_region ?_
  refine L_v (opv_move rfl) rfl ?_
  refine L_x rfl (opx_call0 (qawake_4 p) rfl rfl rfl) (fun r _ => ?_)
  refine L_v (opv_move rfl) rfl ?_
  refine L_v (opv_extract rfl rfl) rfl ?_
  refine L_v (opv_extract rfl rfl) rfl ?_
  refine L_v (opv_assign rfl) rfl ?_
  refine L_v (opv_assign rfl) rfl ?_
  refine L_nil ?_
  refine K_then ?_
  refine J_seq ?_
  obtain ⟨A1, c1⟩ := r
  refine J_imp (sep (Own 30 4 (.slice A1 qaL.length c1) qaL.length (qaL.flatMap enc)) (F)) ?_ ?_
  · exact Ent.take
  refine J_know (fun w hs => own_nonnil hs) fun hA1 => ?_
  obtain ⟨b1, o1, rfl⟩ : ∃ b o, A1 = some (ad b o) := by rcases hA1 with ⟨_, _, h, _⟩ | h; cases h; exact h
  refine J_region ?_
  refine L_v (opv_move rfl) rfl ?_
  first
    | refine L_v (opv_lenL rfl) rfl ?_
    | refine L_v (opv_lenS rfl) rfl ?_
  refine L_v ((opv_eql rfl rfl).bool_t rfl) rfl ?_
  refine L_v (opv_move rfl) rfl ?_
  refine L_gon rfl rfl rfl ?_
  refine L_v (opv_move rfl) rfl ?_
  refine L_gon rfl rfl rfl ?_
  refine L_v (opv_indexAddr rfl rfl (by decide)) rfl ?_
  refine L_gon rfl rfl rfl ?_
  first
    | refine L_v (opv_fieldAddr0 rfl) rfl ?_
    | refine L_v (opv_fieldAddr rfl) rfl ?_
  refine L_gon rfl rfl rfl ?_
  refine L_v (opv_load rfl (Rd.of_take (S := Own 30 4 (.slice (some (ad b1 o1)) qaL.length c1) qaL.length (qaL.flatMap enc)) ((RdS.own (m := 4) (e := 30) (c := c1) (xs := qaL) enc_len (.inr ⟨b1, o1, rfl⟩)).rd b1 o1 rfl 1 ⟨3, xs 10, 100, 130⟩ 0 _ rfl rfl))) rfl ?_
  refine L_gon rfl rfl rfl ?_
  refine L_v ((opv_eql rfl rfl).bool_t rfl) rfl ?_
  first
    | refine L_v (opv_pick_tt rfl rfl) rfl ?_
    | refine L_v (opv_pick_ff rfl rfl) rfl ?_
    | refine L_v (opv_pick rfl rfl rfl) rfl ?_
  refine L_v (opv_move rfl) rfl ?_
  refine L_gon rfl rfl rfl ?_
  refine L_v (opv_move rfl) rfl ?_
  refine L_gon rfl rfl rfl ?_
  refine L_v (opv_indexAddr rfl rfl (by decide)) rfl ?_
  refine L_gon rfl rfl rfl ?_
  first
    | refine L_v (opv_fieldAddr0 rfl) rfl ?_
    | refine L_v (opv_fieldAddr rfl) rfl ?_
  refine L_gon rfl rfl rfl ?_
  refine L_v (opv_load rfl (Rd.of_take (S := Own 30 4 (.slice (some (ad b1 o1)) qaL.length c1) qaL.length (qaL.flatMap enc)) ((RdS.own (m := 4) (e := 30) (c := c1) (xs := qaL) enc_len (.inr ⟨b1, o1, rfl⟩)).rd b1 o1 rfl 1 ⟨3, xs 10, 100, 130⟩ 2 _ rfl rfl))) rfl ?_
  refine L_gon rfl rfl rfl ?_
  refine L_v ((opv_eql rfl rfl).bool_t rfl) rfl ?_
  first
    | refine L_v (opv_pick_tt rfl rfl) rfl ?_
    | refine L_v (opv_pick_ff rfl rfl) rfl ?_
    | refine L_v (opv_pick rfl rfl rfl) rfl ?_
  refine L_v (opv_move rfl) rfl ?_
  refine L_gon rfl rfl rfl ?_
  refine L_v (opv_move rfl) rfl ?_
  refine L_gon rfl rfl rfl ?_
  refine L_v (opv_indexAddr rfl rfl (by decide)) rfl ?_
  refine L_gon rfl rfl rfl ?_
  first
    | refine L_v (opv_fieldAddr0 rfl) rfl ?_
    | refine L_v (opv_fieldAddr rfl) rfl ?_
  refine L_gon rfl rfl rfl ?_
  refine L_v (opv_load rfl (Rd.of_take (S := Own 30 4 (.slice (some (ad b1 o1)) qaL.length c1) qaL.length (qaL.flatMap enc)) ((RdS.own (m := 4) (e := 30) (c := c1) (xs := qaL) enc_len (.inr ⟨b1, o1, rfl⟩)).rd b1 o1 rfl 2 ⟨2, xs 10, 130, 160⟩ 0 _ rfl rfl))) rfl ?_
  refine L_gon rfl rfl rfl ?_
  refine L_v ((opv_eql rfl rfl).bool_t rfl) rfl ?_
  first
    | refine L_v (opv_pick_tt rfl rfl) rfl ?_
    | refine L_v (opv_pick_ff rfl rfl) rfl ?_
    | refine L_v (opv_pick rfl rfl rfl) rfl ?_
  refine L_v (opv_assign rfl) rfl ?_
  refine L_nil ?_
  refine K_then ?_
  refine J_ret ?_
  exact K_ret1 rfl rfl () trivial (rfl) (Ent.trans Ent.drop (Ent.of (emp_sep _).symm))

end Go.Proofs.Ytpnpdliimidoaaa
