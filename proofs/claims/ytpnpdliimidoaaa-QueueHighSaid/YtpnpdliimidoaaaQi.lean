/- The laws QueueOrder, QueueBusy, QueueHigh and QueueNil of the package pitotlaw19 hold for every input: texts of a kind go in order, the wire is never idle while one waits, a high one waits for no other one but one that is going; a nil Out sends nothing. No condition. -/
import Derived.Test.YtpnpdliimidoaaaQx
import Derived.Test.YtpnpdliimidoaaaH
namespace Go.Proofs.Ytpnpdliimidoaaa
open Go.SLA
set_option maxRecDepth 100000
set_option linter.unusedVariables false
set_option linter.unusedSimpArgs false
attribute [local irreducible] J L K QL Rg FSpec OpV OpX Rd Back
attribute [local irreducible] xs
theorem QueueHigh_no (W : World) (A : Option Addr) (c : Nat) (xs : List OpQ) (hR : RdS (old W) encOpQ 5 A xs) (hn : xs.length ≤ 9223372036854775807) (hr : rightQ xs = false) : FSpec Try.prog 11 #[.slice A xs.length c] (old W) (fun _ : Unit => True) (fun _ => .bool true) (fun _ => old W) := by
  refine FSpec.enter' Try.func11 rfl Try.ntmps11 rfl fun σ F => ?_
  refine J_seq ?_
  refine J_region ?_
  refine L_v (opv_assign rfl) rfl ?_
  refine L_nil ?_
  refine K_then ?_
  refine J_seq ?_
  refine J_seq ?_
  refine J_region ?_
  refine L_v (opv_move rfl) rfl ?_
  refine L_x rfl (opx_call0 (right19_no (old W) A c xs hR hn hr) rfl rfl rfl) (fun _ _ => ?_)
  refine L_v (opv_not rfl) rfl ?_
  refine L_nil ?_
  refine K_then ?_
  refine J_cond_true rfl ?_
  refine J_seq ?_
  refine J_region ?_
  refine L_x rfl (opx_call0 (qawake_spec) rfl rfl rfl) (fun _ _ => ?_)
  refine L_emp ?_
  refine L_v (opv_assign rfl) rfl ?_
  refine L_nil ?_
  refine K_then ?_
  refine J_ret ?_
  refine K_then_ret ?_
  exact K_ret1 rfl rfl () trivial (rfl) (Ent.refl _)

set_option maxHeartbeats 600000 in
theorem QueueHigh_yes (W : World) (A : Option Addr) (c : Nat) (xs : List OpQ) (hR : RdS (old W) encOpQ 5 A xs) (hn : xs.length ≤ 9223372036854775807) (hr : rightQ xs = true) : FSpec Try.prog 11 #[.slice A xs.length c] (old W) (fun _ : Unit => True) (fun _ => .bool true) (fun _ => old W) := by
  refine FSpec.enter' Try.func11 rfl Try.ntmps11 rfl fun σ F => ?_
  refine J_seq ?_
  refine J_region ?_
  refine L_v (opv_assign rfl) rfl ?_
  refine L_nil ?_
  refine K_then ?_
  refine J_seq ?_
  refine J_seq ?_
  refine J_region ?_
  refine L_v (opv_move rfl) rfl ?_
  refine L_x rfl (opx_call0 (right19_yes (old W) A c xs hR hn hr) rfl rfl rfl) (fun _ _ => ?_)
  refine L_v (opv_not rfl) rfl ?_
  refine L_nil ?_
  refine K_then ?_
  refine J_cond_false rfl ?_
  refine J_skip ?_
  refine K_then ?_
  refine J_seq ?_
  refine J_region ?_
  refine L_v (opv_move rfl) rfl ?_
  refine L_x rfl (opx_call0 (gone19_spec (old W) A c xs hR hr) rfl rfl rfl) (fun r hfin => ?_)
  refine L_v (opv_move rfl) rfl ?_
  refine L_v (opv_extract rfl rfl) rfl ?_
  refine L_v (opv_extract rfl rfl) rfl ?_
  refine L_v (opv_extract rfl rfl) rfl ?_
  refine L_v (opv_assign rfl) rfl ?_
  refine L_v (opv_assign rfl) rfl ?_
  refine L_v (opv_assign rfl) rfl ?_
  refine L_nil ?_
  refine K_then ?_
  refine J_seq ?_
  refine J_seq ?_
  obtain ⟨L, ⟨A1, c1⟩, ⟨A2, c2⟩⟩ := r
  obtain ⟨fin, hL100⟩ := hfin
  dsimp only at fin hL100
  have hsh := right_short hr
  refine J_imp (sep (Own 30 4 (.slice A1 L.length c1) L.length (L.flatMap enc)) (sep (old W) (F))) ?_ ?_
  · exact Ent.take
  refine J_know (fun w hs => own_nonnil hs) fun hA1 => ?_
  refine J_region ?_
  refine L_v (opv_move rfl) rfl ?_
  refine L_v (opv_not rfl) rfl ?_
  refine L_v (opv_move rfl) rfl ?_
  refine L_gon rfl rfl rfl ?_
  refine L_v (opv_move rfl) rfl ?_
  refine L_gon rfl rfl rfl ?_
  first
    | refine L_v (opv_lenL rfl) rfl ?_
    | refine L_v (opv_lenS rfl) rfl ?_
  refine L_gon rfl rfl rfl ?_
  refine L_v (opv_move rfl) rfl ?_
  refine L_gon rfl rfl rfl ?_
  first
    | refine L_v (opv_lenL rfl) rfl ?_
    | refine L_v (opv_lenS rfl) rfl ?_
  refine L_gon rfl rfl rfl ?_
  refine L_v ((opv_neq rfl rfl).bool_f (fun n => n rfl)) rfl ?_
  first
    | refine L_v (opv_pick_tt rfl rfl) rfl ?_
    | refine L_v (opv_pick_ff rfl rfl) rfl ?_
    | refine L_v (opv_pick rfl rfl rfl) rfl ?_
  refine L_nil ?_
  refine K_then ?_
  refine J_cond_false rfl ?_
  refine J_skip ?_
  refine K_then ?_
  refine J_seq ?_
  refine J_seq ?_
  refine J_region ?_
  refine L_v (opv_assign rfl) rfl ?_
  refine L_nil ?_
  refine K_then ?_
  refine J_block ?_
  refine J_loop (X := Nat) (fun y => [(0, .slice A xs.length c), (3, .slice A1 L.length c1), (6, .int .i64 y)]) (fun y => (sep (Own 30 4 (.slice A1 L.length c1) L.length (L.flatMap enc)) (sep (old W) (F)))) (fun y => y ≤ L.length) (fun y => L.length - y) (0) (Nat.zero_le _) ⟨rfl, rfl, rfl, trivial⟩ (Ent.refl _) (fun y hy => ?_)
  refine J_seq ?_
  refine J_seq ?_
  refine J_region ?_
  refine L_v (opv_move rfl) rfl ?_
  refine L_v (opv_move rfl) rfl ?_
  first
    | refine L_v (opv_lenL rfl) rfl ?_
    | refine L_v (opv_lenS rfl) rfl ?_
  refine L_v (opv_lss rfl rfl) rfl ?_
  refine L_nil ?_
  refine K_then ?_
  refine J_cond rfl (fun h1 => ?_) (fun h1 => ?_)
  · have hkl : y < L.length := by omega
    obtain ⟨a, ha⟩ : ∃ a, L[y]? = some a := ⟨_, List.getElem?_eq_getElem (by omega)⟩
    have oka := fin.ok a (List.mem_of_getElem? ha)
    have i0a := oka.i0
    have ika := oka.ik
    have eea := oka.en
    have nwa := oka.nw
    have bda := fin.bd a (List.mem_of_getElem? ha)
    have hopa := opAt_get i0a ika
    obtain ⟨b1, o1, rfl⟩ : ∃ b o, A1 = some (ad b o) := by rcases hA1 with ⟨_, _, h, _⟩ | h; omega; exact h
    obtain ⟨b, o, rfl⟩ := hR.nonnil a.id.toNat (by omega)
    refine J_skip ?_
    refine K_then ?_
    refine J_seq ?_
    refine J_block ?_
    refine J_seq ?_
    refine J_seq ?_
    refine J_region ?_
    refine L_v (opv_move rfl) rfl ?_
    refine L_v (opv_move rfl) rfl ?_
    first
      | refine L_v (opv_indexAddr rfl rfl (by omega)) rfl ?_
      | refine L_v (opv_indexAddrA rfl rfl (by omega)) rfl ?_
    first
      | refine L_v (opv_fieldAddr0 rfl) rfl ?_
      | refine L_v (opv_fieldAddr rfl) rfl ?_
    refine L_v (opv_load rfl (Rd.of_take (S := Own 30 4 (.slice (some (ad b1 o1)) L.length c1) L.length (L.flatMap enc)) ((RdS.own (m := 4) (e := 30) (c := c1) enc_len (.inr ⟨b1, o1, rfl⟩)).rd b1 o1 rfl y a 0 _ ha rfl))) rfl ?_
    refine L_v ((opv_lss rfl rfl).bool_f (by omega)) rfl ?_
    refine L_v (opv_move rfl) rfl ?_
    refine L_gon rfl rfl rfl ?_
    refine L_v (opv_move rfl) rfl ?_
    refine L_gon rfl rfl rfl ?_
    refine L_v (opv_move rfl) rfl ?_
    refine L_gon rfl rfl rfl ?_
    first
      | refine L_v (opv_indexAddr rfl rfl (by omega)) rfl ?_
      | refine L_v (opv_indexAddrA rfl rfl (by omega)) rfl ?_
    refine L_gon rfl rfl rfl ?_
    first
      | refine L_v (opv_fieldAddr0 rfl) rfl ?_
      | refine L_v (opv_fieldAddr rfl) rfl ?_
    refine L_gon rfl rfl rfl ?_
    refine L_v (opv_load rfl (Rd.of_take (S := Own 30 4 (.slice (some (ad b1 o1)) L.length c1) L.length (L.flatMap enc)) ((RdS.own (m := 4) (e := 30) (c := c1) enc_len (.inr ⟨b1, o1, rfl⟩)).rd b1 o1 rfl y a 0 _ ha rfl))) rfl ?_
    refine L_gon rfl rfl rfl ?_
    refine L_v (opv_move rfl) rfl ?_
    refine L_gon rfl rfl rfl ?_
    first
      | refine L_v (opv_lenL rfl) rfl ?_
      | refine L_v (opv_lenS rfl) rfl ?_
    refine L_gon rfl rfl rfl ?_
    refine L_v ((opv_geq rfl rfl).bool_f (by omega)) rfl ?_
    first
      | refine L_v (opv_pick_tt rfl rfl) rfl ?_
      | refine L_v (opv_pick_ff rfl rfl) rfl ?_
      | refine L_v (opv_pick rfl rfl rfl) rfl ?_
    refine L_nil ?_
    refine K_then ?_
    refine J_cond_false rfl ?_
    refine J_skip ?_
    refine K_then ?_
    refine J_seq ?_
    refine J_region ?_
    refine L_v (opv_move rfl) rfl ?_
    refine L_v (opv_move rfl) rfl ?_
    refine L_v (opv_move rfl) rfl ?_
    first
      | refine L_v (opv_indexAddr rfl rfl (by omega)) rfl ?_
      | refine L_v (opv_indexAddrA rfl rfl (by omega)) rfl ?_
    first
      | refine L_v (opv_fieldAddr0 rfl) rfl ?_
      | refine L_v (opv_fieldAddr rfl) rfl ?_
    refine L_v (opv_load rfl (Rd.of_take (S := Own 30 4 (.slice (some (ad b1 o1)) L.length c1) L.length (L.flatMap enc)) ((RdS.own (m := 4) (e := 30) (c := c1) enc_len (.inr ⟨b1, o1, rfl⟩)).rd b1 o1 rfl y a 0 _ ha rfl))) rfl ?_
    refine L_v (opv_indexAddr rfl rfl ⟨i0a, ika⟩) rfl ?_
    refine L_v (opv_loadN (vs := [.bool (opAt xs a.id).pass, .int .i64 (opAt xs a.id).now, .bool (opAt xs a.id).high, .int .i64 (opAt xs a.id).id, .string (opAt xs a.id).text]) rfl rfl (fun j u hj => Rd.of_take (S := old W) (hR.rd b o rfl a.id.toNat (opAt xs a.id) j u hopa hj))) rfl ?_
    refine L_x rfl (opx_alloc rfl) (fun b7 _ => ?_)
    refine L_x rfl (opx_store rfl rfl rfl (by simp [Value.oneCell'])) (fun _ _ => ?_)
    refine L_nil ?_
    refine K_then ?_
    refine J_seq ?_
    refine J_seq ?_
    refine J_region ?_
    first
      | refine L_v (opv_fieldAddr0 rfl) rfl ?_
      | refine L_v (opv_fieldAddr rfl) rfl ?_
    refine L_v (opv_load rfl (Rd.look rfl)) rfl ?_
    refine L_v (opv_not rfl) rfl ?_
    refine L_nil ?_
    refine K_then ?_
    refine J_cond_bool rfl (fun h2 => ?_) (fun h2 => ?_)
    · refine J_exit ?_
      refine K_then_exit ?_
      refine K_block_here ?_
      refine K_then ?_
      refine J_region ?_
      refine L_v (opv_move rfl) rfl ?_
      first
        | refine L_v (opv_add64 rfl rfl (by omega)) rfl ?_
        | refine L_v (opv_addS rfl rfl (by omega)) rfl ?_
        | refine L_v (opv_add rfl rfl) rfl ?_
      refine L_v (opv_assign rfl) rfl ?_
      refine L_nil ?_
      exact K_loop (y + 1) (by omega) (by omega) ⟨rfl, rfl, rfl, trivial⟩ Ent.take
    · have hhi : (opAt xs a.id).high = true := by have := h2; simpa using this
      refine J_skip ?_
      refine K_then ?_
      refine J_seq ?_
      refine J_region ?_
      refine L_v (opv_assign rfl) rfl ?_
      refine L_nil ?_
      refine K_then ?_
      refine J_block ?_
      refine J_loop (X := Nat) (fun k => [(0, .slice (some (ad b o)) xs.length c), (3, .slice (some (ad b1 o1)) L.length c1), (6, .int .i64 y), (7, .pointer (some (ad b7 0))), (8, .int .i64 k)]) (fun k => (sep (cel b7 [.bool (opAt xs a.id).pass, .int .i64 (opAt xs a.id).now, .bool (opAt xs a.id).high, .int .i64 (opAt xs a.id).id, .string (opAt xs a.id).text] 57) (sep (Own 30 4 (.slice (some (ad b1 o1)) L.length c1) L.length (L.flatMap enc)) (sep (old W) (F))))) (fun k => k ≤ y) (fun k => y - k) (0) (Nat.zero_le _) ⟨rfl, rfl, rfl, rfl, rfl, trivial⟩ Ent.take (fun k hkk => ?_)
      refine J_seq ?_
      refine J_seq ?_
      refine J_region ?_
      refine L_v (opv_move rfl) rfl ?_
      refine L_v (opv_move rfl) rfl ?_
      refine L_v (opv_lss rfl rfl) rfl ?_
      refine L_nil ?_
      refine K_then ?_
      refine J_cond rfl (fun h3 => ?_) (fun h3 => ?_)
      · obtain ⟨d, hd⟩ : ∃ d, L[k]? = some d := ⟨_, List.getElem?_eq_getElem (by omega)⟩
        have okd := fin.ok d (List.mem_of_getElem? hd)
        have i0d := okd.i0
        have ikd := okd.ik
        have eed := okd.en
        have nwd := okd.nw
        have bdd := fin.bd d (List.mem_of_getElem? hd)
        have hopd := opAt_get i0d ikd
        have hrt := pw_get fin.pw hd ha (by omega)
        refine J_skip ?_
        refine K_then ?_
        refine J_seq ?_
        refine J_block ?_
        refine J_seq ?_
        refine J_seq ?_
        refine J_region ?_
        refine L_v (opv_move rfl) rfl ?_
        refine L_v (opv_move rfl) rfl ?_
        first
          | refine L_v (opv_indexAddr rfl rfl (by omega)) rfl ?_
          | refine L_v (opv_indexAddrA rfl rfl (by omega)) rfl ?_
        first
          | refine L_v (opv_fieldAddr0 rfl) rfl ?_
          | refine L_v (opv_fieldAddr rfl) rfl ?_
        refine L_v (opv_load rfl (Rd.of_take (S := Own 30 4 (.slice (some (ad b1 o1)) L.length c1) L.length (L.flatMap enc)) ((RdS.own (m := 4) (e := 30) (c := c1) enc_len (.inr ⟨b1, o1, rfl⟩)).rd b1 o1 rfl k d 0 _ hd rfl))) rfl ?_
        refine L_v ((opv_lss rfl rfl).bool_f (by omega)) rfl ?_
        refine L_v (opv_move rfl) rfl ?_
        refine L_gon rfl rfl rfl ?_
        refine L_v (opv_move rfl) rfl ?_
        refine L_gon rfl rfl rfl ?_
        refine L_v (opv_move rfl) rfl ?_
        refine L_gon rfl rfl rfl ?_
        first
          | refine L_v (opv_indexAddr rfl rfl (by omega)) rfl ?_
          | refine L_v (opv_indexAddrA rfl rfl (by omega)) rfl ?_
        refine L_gon rfl rfl rfl ?_
        first
          | refine L_v (opv_fieldAddr0 rfl) rfl ?_
          | refine L_v (opv_fieldAddr rfl) rfl ?_
        refine L_gon rfl rfl rfl ?_
        refine L_v (opv_load rfl (Rd.of_take (S := Own 30 4 (.slice (some (ad b1 o1)) L.length c1) L.length (L.flatMap enc)) ((RdS.own (m := 4) (e := 30) (c := c1) enc_len (.inr ⟨b1, o1, rfl⟩)).rd b1 o1 rfl k d 0 _ hd rfl))) rfl ?_
        refine L_gon rfl rfl rfl ?_
        refine L_v (opv_move rfl) rfl ?_
        refine L_gon rfl rfl rfl ?_
        first
          | refine L_v (opv_lenL rfl) rfl ?_
          | refine L_v (opv_lenS rfl) rfl ?_
        refine L_gon rfl rfl rfl ?_
        refine L_v ((opv_geq rfl rfl).bool_f (by omega)) rfl ?_
        first
          | refine L_v (opv_pick_tt rfl rfl) rfl ?_
          | refine L_v (opv_pick_ff rfl rfl) rfl ?_
          | refine L_v (opv_pick rfl rfl rfl) rfl ?_
        refine L_nil ?_
        refine K_then ?_
        refine J_cond_false rfl ?_
        refine J_skip ?_
        refine K_then ?_
        refine J_seq ?_
        refine J_quiet Try.mixed (by kernel_rfl) ?_
        refine Q_v (opv_move rfl) rfl ?_
        refine Q_v (opv_move rfl) rfl ?_
        refine Q_v (opv_move rfl) rfl ?_
        first
          | refine Q_v (opv_indexAddr rfl rfl (by omega)) rfl ?_
          | refine Q_v (opv_indexAddrA rfl rfl (by omega)) rfl ?_
        first
          | refine Q_v (opv_fieldAddr0 rfl) rfl ?_
          | refine Q_v (opv_fieldAddr rfl) rfl ?_
        refine Q_v (opv_load rfl (Rd.of_take (S := Own 30 4 (.slice (some (ad b1 o1)) L.length c1) L.length (L.flatMap enc)) ((RdS.own (m := 4) (e := 30) (c := c1) enc_len (.inr ⟨b1, o1, rfl⟩)).rd b1 o1 rfl k d 0 _ hd rfl))) rfl ?_
        refine Q_v (opv_indexAddr rfl rfl ⟨i0d, ikd⟩) rfl ?_
        first
          | refine Q_v (opv_fieldAddr0 rfl) rfl ?_
          | refine Q_v (opv_fieldAddr rfl) rfl ?_
        refine Q_v (opv_load rfl (Rd.of_take (S := old W) (hR.rd b o rfl d.id.toNat (opAt xs d.id) 2 _ hopd rfl))) rfl ?_
        refine Q_v ((opv_not rfl).as (congrArg Value.bool (not_dec _))) rfl ?_
        refine Q_v (opv_move rfl) rfl ?_
        refine Q_gt rfl rfl (fun h4 => ?_) (fun h4 => ?_) (fun _ h => by cases h; rfl)
        · refine Q_v (opv_move rfl) rfl ?_
          refine Q_gt_on h4 rfl rfl ?_
          refine Q_v (opv_move rfl) rfl ?_
          refine Q_gt_on h4 rfl rfl ?_
          first
            | refine Q_v (opv_indexAddr rfl rfl (by omega)) rfl ?_
            | refine Q_v (opv_indexAddrA rfl rfl (by omega)) rfl ?_
          refine Q_gt_on h4 rfl rfl ?_
          first
            | refine Q_v (opv_fieldAddr0 rfl) rfl ?_
            | refine Q_v (opv_fieldAddr rfl) rfl ?_
          refine Q_gt_on h4 rfl rfl ?_
          refine Q_v (opv_load rfl (Rd.of_take (S := Own 30 4 (.slice (some (ad b1 o1)) L.length c1) L.length (L.flatMap enc)) ((RdS.own (m := 4) (e := 30) (c := c1) enc_len (.inr ⟨b1, o1, rfl⟩)).rd b1 o1 rfl k d 2 _ hd rfl))) rfl ?_
          refine Q_gt_on h4 rfl rfl ?_
          first
            | refine Q_v (opv_fieldAddr0 rfl) rfl ?_
            | refine Q_v (opv_fieldAddr rfl) rfl ?_
          refine Q_gt_on h4 rfl rfl ?_
          refine Q_v (opv_load rfl (Rd.look rfl)) rfl ?_
          refine Q_gt_on h4 rfl rfl ?_
          refine Q_v ((opv_gtr rfl rfl).bool_f (by have := hrt.2.2 hhi (by assumption); omega)) rfl ?_
          refine Q_v (opv_pick_t rfl h4 rfl) rfl ?_
          refine QL_nil ?_
          refine K_then ?_
          refine J_cond_false rfl ?_
          refine J_skip ?_
          refine K_block ?_
          refine K_then ?_
          refine J_region ?_
          refine L_v (opv_move rfl) rfl ?_
          first
            | refine L_v (opv_add64 rfl rfl (by omega)) rfl ?_
            | refine L_v (opv_addS rfl rfl (by omega)) rfl ?_
            | refine L_v (opv_add rfl rfl) rfl ?_
          refine L_v (opv_assign rfl) rfl ?_
          refine L_nil ?_
          exact K_loop (k + 1) (by omega) (by omega) ⟨rfl, rfl, rfl, rfl, rfl, trivial⟩ (Ent.refl _)
        · refine Q_gt_off h4 rfl rfl ?_ (fun _ h => by cases h; rfl)
          refine Q_gt_off h4 rfl rfl ?_ (fun _ h => by cases h; rfl)
          refine Q_gt_off h4 rfl rfl ?_ (fun _ h => by cases h; rfl)
          refine Q_gt_off h4 rfl rfl ?_ (fun _ h => by cases h; rfl)
          refine Q_gt_off h4 rfl rfl ?_ (fun _ h => by cases h; rfl)
          refine Q_gt_off h4 rfl rfl ?_ (fun _ h => by cases h; rfl)
          refine Q_gt_off h4 rfl rfl ?_ (fun _ h => by cases h; rfl)
          refine Q_v (opv_pick_f rfl h4 rfl) rfl ?_
          refine QL_nil ?_
          refine K_then ?_
          refine J_cond_false rfl ?_
          refine J_skip ?_
          refine K_block ?_
          refine K_then ?_
          refine J_region ?_
          refine L_v (opv_move rfl) rfl ?_
          first
            | refine L_v (opv_add64 rfl rfl (by omega)) rfl ?_
            | refine L_v (opv_addS rfl rfl (by omega)) rfl ?_
            | refine L_v (opv_add rfl rfl) rfl ?_
          refine L_v (opv_assign rfl) rfl ?_
          refine L_nil ?_
          exact K_loop (k + 1) (by omega) (by omega) ⟨rfl, rfl, rfl, rfl, rfl, trivial⟩ (Ent.refl _)
      · refine J_exit ?_
        refine K_then_exit ?_
        refine K_then_exit ?_
        refine K_block_here ?_
        refine K_block ?_
        refine K_then ?_
        refine J_region ?_
        refine L_v (opv_move rfl) rfl ?_
        first
          | refine L_v (opv_add64 rfl rfl (by omega)) rfl ?_
          | refine L_v (opv_addS rfl rfl (by omega)) rfl ?_
          | refine L_v (opv_add rfl rfl) rfl ?_
        refine L_v (opv_assign rfl) rfl ?_
        refine L_nil ?_
        exact K_loop (y + 1) (by omega) (by omega) ⟨rfl, rfl, rfl, trivial⟩ Ent.take
  · refine J_exit ?_
    refine K_then_exit ?_
    refine K_then_exit ?_
    refine K_block_here ?_
    refine K_then ?_
    refine J_seq ?_
    refine J_region ?_
    refine L_x rfl (opx_call0 (qawake_spec) rfl rfl rfl) (fun _ _ => ?_)
    refine L_emp ?_
    refine L_v (opv_assign rfl) rfl ?_
    refine L_nil ?_
    refine K_then ?_
    refine J_ret ?_
    exact K_ret1 rfl rfl () trivial (rfl) (Ent.trans Ent.take (Ent.refl _))


theorem QueueHigh_law (W : World) (A : Option Addr) (len c : Nat) (xs : List OpQ) (h : ArrIn W encOpQ 5 A len xs) (hl : len ≤ c) (hc : c ≤ maxLen) : FSpec Try.prog 11 #[.slice A len c] (old W) (fun _ : Unit => True) (fun _ => .bool true) (fun _ => old W) := by
  have e := h.1
  subst e
  have hn : xs.length ≤ 9223372036854775807 := by unfold maxLen at hc; omega
  cases hr : rightQ xs with
  | false => exact QueueHigh_no W A c xs (RdS.old h) hn hr
  | true => exact QueueHigh_yes W A c xs (RdS.old h) hn hr

end Go.Proofs.Ytpnpdliimidoaaa
namespace Go.Proofs.Ytpnpdliimidoaaa.queueHigh
open Go.ChangeShapes Go.WideShapes Go.ChangeAt Go.RowKit Go.SLA
open Go.ChangeMaps (open_string shut_string)
set_option linter.unusedVariables false
theorem own : ownKnob Try.prog.godebug = none := by kernel_rfl
theorem laidOut : laidOutB Try.prog = true := by kernel_rfl
set_option maxRecDepth 100000 in
theorem lifted (os : Os) (started : os.Started) (H : Type) (enc : TypeId × Value → H) :
    ReturnsInHanded {} Try.checked os 11 .any (Rows.queueHighSpec.pre6 enc Try.prog Try.f11 Rows.queueHighRow.domain false) (Rows.queueHighSpec.post enc Try.prog Try.f11 false true false false) := by
  refine returnsInHanded_of_change_sized (C := Try.checked) own started (by kernel_rfl) Try.func11
    (ChangeSpec.witness6 (enc := enc) (C := Try.checked) false ⟨#[], #[.slice none 0 0], []⟩ 8 (by kernel_rfl) (by kernel_rfl) (by kernel_rfl) (by kernel_rfl)) ?_
  intro W base args ds gs before hval0 hW hcnd hsz0 _
  have hsz : (DataW.weightsEach Try.prog (Try.f11.params.toList ++ Rows.queueHighSpec.plain.varTypes Try.prog) (ds ++ gs)).all (· ≤ reachBytes) = true := hsz0
  have hval : ∀ (j : Nat) t v, Try.f11.params[j]? = some t → args[j]? = some v → Value.okWide Try.prog W .any base t v := hval0
  have hW' := hW
  obtain ⟨p, q, hA0, hV, rfl, hfz, hnd⟩ := hW
  have hA : DataW.TrodAll enc Try.prog W 0 (fun _ => true) true Try.f11.params.toList args.toList ds p := hA0
  rw [Try.params11] at hA hval hsz
  obtain ⟨v0, vs0, d0, ds0, p0, q0, hargs, rfl, rfl, h0, r0⟩ := trodAll_cons hA
  obtain ⟨rfl, rfl, rfl⟩ := trodAll_nil r0
  obtain rfl : args = #[v0] := by cases args; simp_all
  obtain ⟨rfl, rfl⟩ := trodVars_none hV
  have k0 := h0
  have lt0 : ∀ x ∈ p0, x.block < W.heap.size := by obtain ⟨m, hm⟩ := k0; exact DataW.trod_lt m _ _ _ hm
  obtain ⟨A0, len0, cap0, xs0, rfl, hl0, hc0, harr0, hok0⟩ := open_arr (D := 3) (ks := ksOpQ) (en := encOpQ) (ok := okOpQ) Try.underlying51 (by kernel_rfl) (by kernel_rfl) (by decide) (fun cs h => decOpQ cs h) (hval 0 51 v0 rfl rfl) h0
  clear hA0 hval0 hsz0 hsz
  refine (FSpec.law (QueueHigh_law W A0 len0 cap0 xs0 harr0 hl0 hc0)).mono fun e W' ⟨he, bel⟩ => ?_
  subst he
  exact ⟨_, rfl, _, _, _, [], _, [], hW', trodAll_mk1 (shut_bool Try.underlying4 _), (trodAll_cons_mk (Below.trod laidOut (by kernel_rfl) (of_decide_eq_true (by kernel_rfl)) k0 bel lt0) trodAll_mk0), rfl, bel.frame _, fun h => by cases h⟩
theorem over : Rows.queueHighRow.holds Try.pinned (OpenSpec.ofChange Rows.queueHighSpec) :=
  OpenClaim.holds_of_wide 11 Try.f11 rfl rfl rfl rfl rfl rfl rfl ⟨rfl, rfl, rfl, rfl, rfl⟩ rfl rfl rfl rfl rfl (by kernel_rfl) Try.func11 (by kernel_rfl)
    (of_decide_eq_true (by kernel_rfl)) (by unfold Func.isWrapper; first | (rw [if_pos (by decide +kernel)]; kernel_rfl) | (rw [if_neg (by decide +kernel)]; exact ⟨rfl, rfl⟩))
    (fun os started H enc _ => lifted os started H enc)
end Go.Proofs.Ytpnpdliimidoaaa.queueHigh
namespace Go.Proofs.Ytpnpdliimidoaaa
theorem queueHigh_holds : Rows.QueueHighSaid := queueHigh.over
#print axioms queueHigh_holds
end Go.Proofs.Ytpnpdliimidoaaa
namespace Go.Proofs.Ytpnpdliimidoaaa
open Go.SLA
set_option maxRecDepth 100000
attribute [local irreducible] J L K QL Rg FSpec OpV OpX Rd Back xs
end Go.Proofs.Ytpnpdliimidoaaa
