/- The law MuxRate of the package pitotlaw14 holds for every input: the wire carries no more than its rate. No condition. -/
import Derived.Test.YtpnpdliimidoaaaMh
import Derived.Test.YtpnpdliimidoaaaH
namespace Go.Proofs.Ytpnpdliimidoaaa
open Go.SLA
set_option maxRecDepth 100000
set_option linter.unusedVariables false
set_option linter.unusedSimpArgs false
attribute [local irreducible] J L K QL Rg FSpec OpV OpX Rd Back
theorem MuxRate_no (W : World) (A : Option Addr) (c : Nat) (xs : List OpM) (fr to : Int) (hR : RdS (old W) encOp 4 A xs) (hn : xs.length ≤ 9223372036854775807) (hr : rightB xs = false) : FSpec Try.prog 4 #[.slice A xs.length c, .int .i64 fr, .int .i64 to] (old W) (fun _ : Unit => True) (fun _ => .bool true) (fun _ => old W) := by
  refine FSpec.enter' Try.func4 rfl Try.ntmps4 rfl fun σ F => ?_
  refine J_seq ?_
  refine J_region ?_
  refine L_v (opv_assign rfl) rfl ?_
  refine L_nil ?_
  refine K_then ?_
  refine J_seq ?_
  refine J_seq ?_
  refine J_region ?_
  refine L_v (opv_move rfl) rfl ?_
  refine L_x rfl (opx_call0 (right_no (old W) A c xs hR hn hr) rfl rfl rfl) (fun _ _ => ?_)
  refine L_v (opv_not rfl) rfl ?_
  refine L_v (opv_move rfl) rfl ?_
  refine L_gskip rfl rfl rfl ?_ (fun _ h => by cases h; rfl)
  refine L_gskip rfl rfl rfl ?_ (fun _ h => by cases h; rfl)
  first
    | refine L_v (opv_pick_tt rfl rfl) rfl ?_
    | refine L_v (opv_pick_ff rfl rfl) rfl ?_
    | refine L_v (opv_pick rfl rfl rfl) rfl ?_
  refine L_v (opv_move rfl) rfl ?_
  refine L_gskip rfl rfl rfl ?_ (fun _ h => by cases h; rfl)
  refine L_gskip rfl rfl rfl ?_ (fun _ h => by cases h; rfl)
  first
    | refine L_v (opv_pick_tt rfl rfl) rfl ?_
    | refine L_v (opv_pick_ff rfl rfl) rfl ?_
    | refine L_v (opv_pick rfl rfl rfl) rfl ?_
  refine L_v (opv_move rfl) rfl ?_
  refine L_gskip rfl rfl rfl ?_ (fun _ h => by cases h; rfl)
  refine L_gskip rfl rfl rfl ?_ (fun _ h => by cases h; rfl)
  first
    | refine L_v (opv_pick_tt rfl rfl) rfl ?_
    | refine L_v (opv_pick_ff rfl rfl) rfl ?_
    | refine L_v (opv_pick rfl rfl rfl) rfl ?_
  refine L_v (opv_move rfl) rfl ?_
  refine L_gskip rfl rfl rfl ?_ (fun _ h => by cases h; rfl)
  refine L_gskip rfl rfl rfl ?_ (fun _ h => by cases h; rfl)
  first
    | refine L_v (opv_pick_tt rfl rfl) rfl ?_
    | refine L_v (opv_pick_ff rfl rfl) rfl ?_
    | refine L_v (opv_pick rfl rfl rfl) rfl ?_
  refine L_nil ?_
  refine K_then ?_
  refine J_cond_true rfl ?_
  refine J_seq ?_
  refine J_region ?_
  refine L_x rfl (opx_call0 (awake_spec) rfl rfl rfl) (fun _ _ => ?_)
  refine L_emp ?_
  refine L_v (opv_assign rfl) rfl ?_
  refine L_nil ?_
  refine K_then ?_
  refine J_ret ?_
  refine K_then_ret ?_
  exact K_ret1 rfl rfl () trivial (rfl) (Ent.refl _)

theorem MuxRate_yes (W : World) (A : Option Addr) (c : Nat) (xs : List OpM) (fr to : Int) (hR : RdS (old W) encOp 4 A xs) (hn : xs.length ≤ 9223372036854775807) (hr : rightB xs = true) : FSpec Try.prog 4 #[.slice A xs.length c, .int .i64 fr, .int .i64 to] (old W) (fun _ : Unit => True) (fun _ => .bool true) (fun _ => old W) := by
  have hok := right_offs hr
  refine FSpec.enter' Try.func4 rfl Try.ntmps4 rfl fun σ F => ?_
  refine J_seq ?_
  refine J_region ?_
  refine L_v (opv_assign rfl) rfl ?_
  refine L_nil ?_
  refine K_then ?_
  refine J_seq ?_
  refine J_seq ?_
  refine J_region ?_
  refine L_v (opv_move rfl) rfl ?_
  refine L_x rfl (opx_call0 (right_yes (old W) A c xs hR hn hr) rfl rfl rfl) (fun _ _ => ?_)
  refine L_v (opv_not rfl) rfl ?_
  refine L_v (opv_move rfl) rfl ?_
  refine L_gon rfl rfl rfl ?_
  refine L_v (opv_move rfl) rfl ?_
  refine L_gon rfl rfl rfl ?_
  refine L_v (opv_lss rfl rfl) rfl ?_
  first
    | refine L_v (opv_pick_tt rfl rfl) rfl ?_
    | refine L_v (opv_pick_ff rfl rfl) rfl ?_
    | refine L_v (opv_pick rfl rfl rfl) rfl ?_
  refine L_v (opv_move rfl) rfl ?_
  refine L_gf rfl rfl (fun h1 => ?_) (fun h1 => ?_) (fun _ h => by cases h; rfl)
  · refine L_v (opv_move rfl) rfl ?_
    refine L_gf_on h1 rfl rfl ?_
    refine L_v (opv_gtr rfl rfl) rfl ?_
    refine L_v (opv_pick_f rfl h1 rfl) rfl ?_
    refine L_v (opv_move rfl) rfl ?_
    refine L_gf rfl rfl (fun h2 => ?_) (fun h2 => ?_) (fun _ h => by cases h; rfl)
    · refine L_v (opv_move rfl) rfl ?_
      refine L_gf_on h2 rfl rfl ?_
      refine L_v (opv_lss rfl rfl) rfl ?_
      refine L_v (opv_pick_f rfl h2 rfl) rfl ?_
      refine L_v (opv_move rfl) rfl ?_
      refine L_gf rfl rfl (fun h3 => ?_) (fun h3 => ?_) (fun _ h => by cases h; rfl)
      · refine L_v (opv_move rfl) rfl ?_
        refine L_gf_on h3 rfl rfl ?_
        refine L_v (opv_gtr rfl rfl) rfl ?_
        refine L_v (opv_pick_f rfl h3 rfl) rfl ?_
        refine L_nil ?_
        refine K_then ?_
        refine J_cond rfl (fun h4 => ?_) (fun h4 => ?_)
        · refine J_seq ?_
          refine J_region ?_
          refine L_x rfl (opx_call0 (awake_spec) rfl rfl rfl) (fun _ _ => ?_)
          refine L_emp ?_
          refine L_v (opv_assign rfl) rfl ?_
          refine L_nil ?_
          refine K_then ?_
          refine J_ret ?_
          refine K_then_ret ?_
          exact K_ret1 rfl rfl () trivial (rfl) (Ent.trans Ent.take (Ent.refl _))
        · refine J_skip ?_
          refine K_then ?_
          refine J_seq ?_
          refine J_region ?_
          refine L_v (opv_move rfl) rfl ?_
          refine L_x rfl (opx_call0 (gone_ok (old W) A c xs hR hr) rfl rfl rfl) (fun r _ => ?_)
          refine L_v (opv_move rfl) rfl ?_
          refine L_v (opv_extract rfl rfl) rfl ?_
          refine L_v (opv_extract rfl rfl) rfl ?_
          refine L_v (opv_extract rfl rfl) rfl ?_
          refine L_v (opv_assign rfl) rfl ?_
          refine L_v (opv_assign rfl) rfl ?_
          refine L_v (opv_assign rfl) rfl ?_
          refine L_nil ?_
          refine K_then ?_
          refine J_seq ?_
          refine J_seq ?_
          obtain ⟨⟨A1, c1⟩, ⟨A2, c2⟩⟩ := r
          have hol := hok.2
          have hsl := sched_len (offs xs)
          refine J_imp (sep (Own 30 4 (.slice A1 (sched (offs xs)).length c1) (sched (offs xs)).length ((sched (offs xs)).flatMap enc)) (sep (old W) (F))) ?_ ?_
          · exact Ent.take
          refine J_know (fun w hs => own_nonnil hs) fun hA1 => ?_
          refine J_region ?_
          refine L_v (opv_move rfl) rfl ?_
          refine L_v (opv_not rfl) rfl ?_
          refine L_nil ?_
          refine K_then ?_
          refine J_cond_false rfl ?_
          refine J_skip ?_
          refine K_then ?_
          refine J_seq ?_
          refine J_region ?_
          refine L_v (opv_assign rfl) rfl ?_
          refine L_nil ?_
          refine K_then ?_
          refine J_seq ?_
          refine J_seq ?_
          refine J_region ?_
          refine L_v (opv_assign rfl) rfl ?_
          refine L_nil ?_
          refine K_then ?_
          refine J_block ?_
          refine J_loop (X := Nat × Int) (fun y => [(1, .int .i64 fr), (2, .int .i64 to), (7, .slice A1 (sched (offs xs)).length c1), (10, .int .i64 y.2), (11, .int .i64 y.1)]) (fun y => (sep (Own 30 4 (.slice A1 (sched (offs xs)).length c1) (sched (offs xs)).length ((sched (offs xs)).flatMap enc)) (sep (old W) (F)))) (fun y => y.1 ≤ (offs xs).length ∧ 0 ≤ y.2 ∧ (y.2 = 0 ∨ (y.2 ≤ endS ((offs xs).take y.1) - fr ∧ y.2 ≤ to))) (fun y => (offs xs).length - y.1) ((0, 0)) ⟨Nat.zero_le _, Int.le_refl _, .inl rfl⟩ ⟨rfl, rfl, rfl, rfl, rfl, trivial⟩ (Ent.refl _) (fun y hy => ?_)
          obtain ⟨hk, hy, hy2⟩ := hy
          refine J_seq ?_
          refine J_seq ?_
          refine J_region ?_
          refine L_v (opv_move rfl) rfl ?_
          refine L_v (opv_move rfl) rfl ?_
          first
            | refine L_v (opv_lenL rfl) rfl ?_
            | refine L_v (opv_lenS rfl) rfl ?_
          refine L_v (opv_lss rfl rfl) rfl ?_
          refine L_nil ?_
          refine K_then ?_
          refine J_cond rfl (fun h5 => ?_) (fun h5 => ?_)
          · have hkl : y.1 < (offs xs).length := by omega
            obtain ⟨a, ha⟩ : ∃ a, (offs xs)[y.1]? = some a := ⟨_, List.getElem?_eq_getElem hkl⟩
            obtain ⟨x, hx, hx1, hx2, hx3, hx4, hx5⟩ := sched_get _ _ _ ha
            have hoa := hok.1.get ha
            have heb := endS_bound (hok.1.take y.1)
            have htl := List.length_take_le y.1 (offs xs)
            have hbb : 0 ≤ x.b ∧ x.b ≤ 281474976710656 + 1538 * ((offs xs).take y.1).length ∧ endS ((offs xs).take y.1) ≤ x.b := by rw [hx3]; split <;> omega
            have hx6 : x.tx.size = a.2.size := by rw [hx2]
            obtain ⟨b1, o1, rfl⟩ : ∃ b o, A1 = some (ad b o) := by rcases hA1 with ⟨_, _, h, _⟩ | h; omega; exact h
            refine J_skip ?_
            refine K_then ?_
            refine J_seq ?_
            refine J_block ?_
            refine J_seq ?_
            refine J_region ?_
            refine L_v (opv_move rfl) rfl ?_
            refine L_v (opv_move rfl) rfl ?_
            first
              | refine L_v (opv_indexAddr rfl rfl (by omega)) rfl ?_
              | refine L_v (opv_indexAddrA rfl rfl (by omega)) rfl ?_
            first
              | refine L_v (opv_fieldAddr0 rfl) rfl ?_
              | refine L_v (opv_fieldAddr rfl) rfl ?_
            refine L_v (opv_load rfl (Rd.of_take (S := Own 30 4 (.slice (some (ad b1 o1)) (sched (offs xs)).length c1) (sched (offs xs)).length ((sched (offs xs)).flatMap enc)) ((RdS.own (m := 4) (e := 30) (c := c1) enc_len (.inr ⟨b1, o1, rfl⟩)).rd b1 o1 rfl y.1 x 2 _ hx rfl))) rfl ?_
            refine L_v (opv_move rfl) rfl ?_
            refine L_v (opv_geq rfl rfl) rfl ?_
            refine L_v (opv_move rfl) rfl ?_
            refine L_gt rfl rfl (fun h6 => ?_) (fun h6 => ?_) (fun _ h => by cases h; rfl)
            · refine L_v (opv_move rfl) rfl ?_
              refine L_gt_on h6 rfl rfl ?_
              refine L_v (opv_move rfl) rfl ?_
              refine L_gt_on h6 rfl rfl ?_
              first
                | refine L_v (opv_indexAddr rfl rfl (by omega)) rfl ?_
                | refine L_v (opv_indexAddrA rfl rfl (by omega)) rfl ?_
              refine L_gt_on h6 rfl rfl ?_
              first
                | refine L_v (opv_fieldAddr0 rfl) rfl ?_
                | refine L_v (opv_fieldAddr rfl) rfl ?_
              refine L_gt_on h6 rfl rfl ?_
              refine L_v (opv_load rfl (Rd.of_take (S := Own 30 4 (.slice (some (ad b1 o1)) (sched (offs xs)).length c1) (sched (offs xs)).length ((sched (offs xs)).flatMap enc)) ((RdS.own (m := 4) (e := 30) (c := c1) enc_len (.inr ⟨b1, o1, rfl⟩)).rd b1 o1 rfl y.1 x 3 _ hx rfl))) rfl ?_
              refine L_gt_on h6 rfl rfl ?_
              refine L_v (opv_move rfl) rfl ?_
              refine L_gt_on h6 rfl rfl ?_
              refine L_v (opv_move rfl) rfl ?_
              refine L_gt_on h6 rfl rfl ?_
              first
                | refine L_v (opv_add64 rfl rfl (by omega)) rfl ?_
                | refine L_v (opv_addS rfl rfl (by omega)) rfl ?_
                | refine L_v (opv_add rfl rfl) rfl ?_
              refine L_gt_on h6 rfl rfl ?_
              refine L_v (opv_leq rfl rfl) rfl ?_
              refine L_v (opv_pick_t rfl h6 rfl) rfl ?_
              refine L_nil ?_
              refine K_then ?_
              refine J_cond rfl (fun h7 => ?_) (fun h7 => ?_)
              · refine J_region ?_
                refine L_v (opv_move rfl) rfl ?_
                refine L_v (opv_move rfl) rfl ?_
                refine L_v (opv_move rfl) rfl ?_
                first
                  | refine L_v (opv_indexAddr rfl rfl (by omega)) rfl ?_
                  | refine L_v (opv_indexAddrA rfl rfl (by omega)) rfl ?_
                first
                  | refine L_v (opv_fieldAddr0 rfl) rfl ?_
                  | refine L_v (opv_fieldAddr rfl) rfl ?_
                refine L_v (opv_load rfl (Rd.of_take (S := Own 30 4 (.slice (some (ad b1 o1)) (sched (offs xs)).length c1) (sched (offs xs)).length ((sched (offs xs)).flatMap enc)) ((RdS.own (m := 4) (e := 30) (c := c1) enc_len (.inr ⟨b1, o1, rfl⟩)).rd b1 o1 rfl y.1 x 1 _ hx rfl))) rfl ?_
                first
                  | refine L_v (opv_lenL rfl) rfl ?_
                  | refine L_v (opv_lenS rfl) rfl ?_
                first
                  | refine L_v (opv_add64 rfl rfl (by omega)) rfl ?_
                  | refine L_v (opv_addS rfl rfl (by omega)) rfl ?_
                  | refine L_v (opv_add rfl rfl) rfl ?_
                first
                  | refine L_v (opv_add64 rfl rfl (by omega)) rfl ?_
                  | refine L_v (opv_addS rfl rfl (by omega)) rfl ?_
                  | refine L_v (opv_add rfl rfl) rfl ?_
                refine L_v (opv_assign rfl) rfl ?_
                refine L_nil ?_
                refine K_block ?_
                refine K_then ?_
                refine J_region ?_
                refine L_v (opv_move rfl) rfl ?_
                first
                  | refine L_v (opv_add64 rfl rfl (by omega)) rfl ?_
                  | refine L_v (opv_addS rfl rfl (by omega)) rfl ?_
                  | refine L_v (opv_add rfl rfl) rfl ?_
                refine L_v (opv_assign rfl) rfl ?_
                refine L_nil ?_
                exact K_loop ((y.1 + 1, y.2 + (x.tx.size : Int) + 20)) (by refine ⟨?_, ?_, ?_⟩ <;> dsimp only <;> omega) (by show _ - (y.1 + 1) < _; omega) ⟨rfl, rfl, rfl, rfl, rfl, trivial⟩ (Ent.refl _)
              · refine J_skip ?_
                refine K_block ?_
                refine K_then ?_
                refine J_region ?_
                refine L_v (opv_move rfl) rfl ?_
                first
                  | refine L_v (opv_add64 rfl rfl (by omega)) rfl ?_
                  | refine L_v (opv_addS rfl rfl (by omega)) rfl ?_
                  | refine L_v (opv_add rfl rfl) rfl ?_
                refine L_v (opv_assign rfl) rfl ?_
                refine L_nil ?_
                exact K_loop ((y.1 + 1, y.2)) (by refine ⟨?_, ?_, ?_⟩ <;> dsimp only <;> omega) (by show _ - (y.1 + 1) < _; omega) ⟨rfl, rfl, rfl, rfl, rfl, trivial⟩ (Ent.refl _)
            · refine L_gt_off h6 rfl rfl ?_ (fun _ h => by cases h; rfl)
              refine L_gt_off h6 rfl rfl ?_ (fun _ h => by cases h; rfl)
              refine L_gt_off h6 rfl rfl ?_ (fun _ h => by cases h; rfl)
              refine L_gt_off h6 rfl rfl ?_ (fun _ h => by cases h; rfl)
              refine L_gt_off h6 rfl rfl ?_ (fun _ h => by cases h; rfl)
              refine L_gt_off h6 rfl rfl ?_ (fun _ h => by cases h; rfl)
              refine L_gt_off h6 rfl rfl ?_ (fun _ h => by cases h; rfl)
              refine L_gt_off h6 rfl rfl ?_ (fun _ h => by cases h; rfl)
              refine L_v (opv_pick_f rfl h6 rfl) rfl ?_
              refine L_nil ?_
              refine K_then ?_
              refine J_cond_false rfl ?_
              refine J_skip ?_
              refine K_block ?_
              refine K_then ?_
              refine J_region ?_
              refine L_v (opv_move rfl) rfl ?_
              first
                | refine L_v (opv_add64 rfl rfl (by omega)) rfl ?_
                | refine L_v (opv_addS rfl rfl (by omega)) rfl ?_
                | refine L_v (opv_add rfl rfl) rfl ?_
              refine L_v (opv_assign rfl) rfl ?_
              refine L_nil ?_
              exact K_loop ((y.1 + 1, y.2)) (by refine ⟨?_, ?_, ?_⟩ <;> dsimp only <;> omega) (by show _ - (y.1 + 1) < _; omega) ⟨rfl, rfl, rfl, rfl, rfl, trivial⟩ (Ent.refl _)
          · refine J_exit ?_
            refine K_then_exit ?_
            refine K_then_exit ?_
            refine K_block_here ?_
            refine K_then ?_
            refine J_seq ?_
            refine J_region ?_
            refine L_v (opv_move rfl) rfl ?_
            refine L_v (opv_move rfl) rfl ?_
            refine L_v (opv_leq rfl rfl) rfl ?_
            refine L_v (opv_move rfl) rfl ?_
            refine L_gt rfl rfl (fun h8 => ?_) (fun h8 => absurd (by omega) h8) (fun _ h => by cases h; rfl)
            refine L_x rfl (opx_call0 (awake_spec) rfl rfl rfl) (fun _ _ => ?_)
            refine L_emp ?_
            refine L_v (opv_pick_t rfl h8 rfl) rfl ?_
            refine L_v (opv_assign rfl) rfl ?_
            refine L_nil ?_
            refine K_then ?_
            refine J_ret ?_
            exact K_ret1 rfl rfl () trivial (rfl) (Ent.trans Ent.take (Ent.refl _))
      · refine L_gf_off h3 rfl rfl ?_ (fun _ h => by cases h; rfl)
        refine L_v (opv_pick_t rfl h3 rfl) rfl ?_
        refine L_nil ?_
        refine K_then ?_
        refine J_cond_true rfl ?_
        refine J_seq ?_
        refine J_region ?_
        refine L_x rfl (opx_call0 (awake_spec) rfl rfl rfl) (fun _ _ => ?_)
        refine L_emp ?_
        refine L_v (opv_assign rfl) rfl ?_
        refine L_nil ?_
        refine K_then ?_
        refine J_ret ?_
        refine K_then_ret ?_
        exact K_ret1 rfl rfl () trivial (rfl) (Ent.trans Ent.take (Ent.refl _))
    · refine L_gf_off h2 rfl rfl ?_ (fun _ h => by cases h; rfl)
      refine L_v (opv_pick_t rfl h2 rfl) rfl ?_
      refine L_v (opv_move rfl) rfl ?_
      refine L_gskip rfl rfl rfl ?_ (fun _ h => by cases h; rfl)
      refine L_gskip rfl rfl rfl ?_ (fun _ h => by cases h; rfl)
      first
        | refine L_v (opv_pick_tt rfl rfl) rfl ?_
        | refine L_v (opv_pick_ff rfl rfl) rfl ?_
        | refine L_v (opv_pick rfl rfl rfl) rfl ?_
      refine L_nil ?_
      refine K_then ?_
      refine J_cond_true rfl ?_
      refine J_seq ?_
      refine J_region ?_
      refine L_x rfl (opx_call0 (awake_spec) rfl rfl rfl) (fun _ _ => ?_)
      refine L_emp ?_
      refine L_v (opv_assign rfl) rfl ?_
      refine L_nil ?_
      refine K_then ?_
      refine J_ret ?_
      refine K_then_ret ?_
      exact K_ret1 rfl rfl () trivial (rfl) (Ent.trans Ent.take (Ent.refl _))
  · refine L_gf_off h1 rfl rfl ?_ (fun _ h => by cases h; rfl)
    refine L_v (opv_pick_t rfl h1 rfl) rfl ?_
    refine L_v (opv_move rfl) rfl ?_
    refine L_gskip rfl rfl rfl ?_ (fun _ h => by cases h; rfl)
    refine L_gskip rfl rfl rfl ?_ (fun _ h => by cases h; rfl)
    first
      | refine L_v (opv_pick_tt rfl rfl) rfl ?_
      | refine L_v (opv_pick_ff rfl rfl) rfl ?_
      | refine L_v (opv_pick rfl rfl rfl) rfl ?_
    refine L_v (opv_move rfl) rfl ?_
    refine L_gskip rfl rfl rfl ?_ (fun _ h => by cases h; rfl)
    refine L_gskip rfl rfl rfl ?_ (fun _ h => by cases h; rfl)
    first
      | refine L_v (opv_pick_tt rfl rfl) rfl ?_
      | refine L_v (opv_pick_ff rfl rfl) rfl ?_
      | refine L_v (opv_pick rfl rfl rfl) rfl ?_
    refine L_nil ?_
    refine K_then ?_
    refine J_cond_true rfl ?_
    refine J_seq ?_
    refine J_region ?_
    refine L_x rfl (opx_call0 (awake_spec) rfl rfl rfl) (fun _ _ => ?_)
    refine L_emp ?_
    refine L_v (opv_assign rfl) rfl ?_
    refine L_nil ?_
    refine K_then ?_
    refine J_ret ?_
    refine K_then_ret ?_
    exact K_ret1 rfl rfl () trivial (rfl) (Ent.trans Ent.take (Ent.refl _))


theorem MuxRate_law (W : World) (A : Option Addr) (len c : Nat) (xs : List OpM) (fr to : Int) (h : ArrIn W encOp 4 A len xs) (hl : len ≤ c) (hc : c ≤ maxLen) : FSpec Try.prog 4 #[.slice A len c, .int .i64 fr, .int .i64 to] (old W) (fun _ : Unit => True) (fun _ => .bool true) (fun _ => old W) := by
  have e := h.1
  subst e
  have hn : xs.length ≤ 9223372036854775807 := by unfold maxLen at hc; omega
  cases hr : rightB xs with
  | false => exact MuxRate_no W A c xs fr to (RdS.old h) hn hr
  | true => exact MuxRate_yes W A c xs fr to (RdS.old h) hn hr

end Go.Proofs.Ytpnpdliimidoaaa
namespace Go.Proofs.Ytpnpdliimidoaaa.muxRate
open Go.ChangeShapes Go.WideShapes Go.ChangeAt Go.RowKit Go.SLA
open Go.ChangeMaps (open_string shut_string)
set_option linter.unusedVariables false
theorem own : ownKnob Try.prog.godebug = none := by kernel_rfl
theorem laidOut : laidOutB Try.prog = true := by kernel_rfl
set_option maxRecDepth 100000 in
theorem lifted (os : Os) (started : os.Started) (H : Type) (enc : TypeId × Value → H) :
    ReturnsInHanded {} Try.checked os 4 .any (Rows.muxRateSpec.pre6 enc Try.prog Try.f4 Rows.muxRateRow.domain false) (Rows.muxRateSpec.post enc Try.prog Try.f4 false true false false) := by
  refine returnsInHanded_of_change_sized (C := Try.checked) own started (by kernel_rfl) Try.func4
    (ChangeSpec.witness6 (enc := enc) (C := Try.checked) false ⟨#[], #[.slice none 0 0, .int .i64 0, .int .i64 0], []⟩ 8 (by kernel_rfl) (by kernel_rfl) (by kernel_rfl) (by kernel_rfl)) ?_
  intro W base args ds gs before hval0 hW hcnd hsz0 _
  have hsz : (DataW.weightsEach Try.prog (Try.f4.params.toList ++ Rows.muxRateSpec.plain.varTypes Try.prog) (ds ++ gs)).all (· ≤ reachBytes) = true := hsz0
  have hval : ∀ (j : Nat) t v, Try.f4.params[j]? = some t → args[j]? = some v → Value.okWide Try.prog W .any base t v := hval0
  have hW' := hW
  obtain ⟨p, q, hA0, hV, rfl, hfz, hnd⟩ := hW
  have hA : DataW.TrodAll enc Try.prog W 0 (fun _ => true) true Try.f4.params.toList args.toList ds p := hA0
  rw [Try.params4] at hA hval hsz
  obtain ⟨v0, vs0, d0, ds0, p0, q0, hargs, rfl, rfl, h0, r0⟩ := trodAll_cons hA
  obtain ⟨v1, vs1, d1, ds1, p1, q1, rfl, rfl, rfl, h1, r1⟩ := trodAll_cons r0
  obtain ⟨v2, vs2, d2, ds2, p2, q2, rfl, rfl, rfl, h2, r2⟩ := trodAll_cons r1
  obtain ⟨rfl, rfl, rfl⟩ := trodAll_nil r2
  obtain rfl : args = #[v0, v1, v2] := by cases args; simp_all
  obtain ⟨rfl, rfl⟩ := trodVars_none hV
  have k0 := h0
  have lt0 : ∀ x ∈ p0, x.block < W.heap.size := by obtain ⟨m, hm⟩ := k0; exact DataW.trod_lt m _ _ _ hm
  obtain ⟨A0, len0, cap0, xs0, rfl, hl0, hc0, harr0, hok0⟩ := open_arr (D := 3) (ks := ksOp) (en := encOp) (ok := okOp) Try.underlying22 (by kernel_rfl) (by kernel_rfl) (by decide) (fun cs h => decOp cs h) (hval 0 22 v0 rfl rfl) h0
  have k1 := h1
  have lt1 : ∀ x ∈ p1, x.block < W.heap.size := by obtain ⟨m, hm⟩ := k1; exact DataW.trod_lt m _ _ _ hm
  obtain ⟨a1, rfl, rfl, rfl, w1⟩ := open_int Try.underlying3 (hval 1 3 v1 rfl rfl) h1
  have k2 := h2
  have lt2 : ∀ x ∈ p2, x.block < W.heap.size := by obtain ⟨m, hm⟩ := k2; exact DataW.trod_lt m _ _ _ hm
  obtain ⟨a2, rfl, rfl, rfl, w2⟩ := open_int Try.underlying3 (hval 2 3 v2 rfl rfl) h2
  clear hA0 hval0 hsz0 hsz
  refine (FSpec.law (MuxRate_law W A0 len0 cap0 xs0 a1 a2 harr0 hl0 hc0)).mono fun e W' ⟨he, bel⟩ => ?_
  subst he
  exact ⟨_, rfl, _, _, _, [], _, [], hW', trodAll_mk1 (shut_bool Try.underlying4 _), (trodAll_cons_mk (Below.trod laidOut (by kernel_rfl) (of_decide_eq_true (by kernel_rfl)) k0 bel lt0) (trodAll_cons_mk (Below.trod laidOut (by kernel_rfl) (of_decide_eq_true (by kernel_rfl)) k1 bel lt1) (trodAll_cons_mk (Below.trod laidOut (by kernel_rfl) (of_decide_eq_true (by kernel_rfl)) k2 bel lt2) trodAll_mk0))), rfl, bel.frame _, fun h => by cases h⟩
theorem over : Rows.muxRateRow.holds Try.pinned (OpenSpec.ofChange Rows.muxRateSpec) :=
  OpenClaim.holds_of_wide 4 Try.f4 rfl rfl rfl rfl rfl rfl rfl ⟨rfl, rfl, rfl, rfl, rfl⟩ rfl rfl rfl rfl rfl (by kernel_rfl) Try.func4 (by kernel_rfl)
    (of_decide_eq_true (by kernel_rfl)) (by unfold Func.isWrapper; first | (rw [if_pos (by decide +kernel)]; kernel_rfl) | (rw [if_neg (by decide +kernel)]; exact ⟨rfl, rfl⟩))
    (fun os started H enc _ => lifted os started H enc)
end Go.Proofs.Ytpnpdliimidoaaa.muxRate
namespace Go.Proofs.Ytpnpdliimidoaaa
theorem muxRate_holds : Rows.MuxRateSaid := muxRate.over
#print axioms muxRate_holds
end Go.Proofs.Ytpnpdliimidoaaa
namespace Go.Proofs.Ytpnpdliimidoaaa
open Go.SLA
end Go.Proofs.Ytpnpdliimidoaaa
