/- The laws QueueOrder, QueueBusy, QueueHigh and QueueNil of the package pitotlaw19 hold for every input: texts of a kind go in order, the wire is never idle while one waits, a high one waits for no other one but one that is going; a nil Out sends nothing. No condition. -/
import Derived.Test.YtpnpdliimidoaaaQx
import Derived.Test.YtpnpdliimidoaaaH
namespace Go.Proofs.Ytpnpdliimidoaaa
open Go.SLA
set_option maxRecDepth 100000
set_option linter.unusedVariables false
set_option linter.unusedSimpArgs false
attribute [local irreducible] J L K QL Rg FSpec OpV OpX Rd Back
attribute [local irreducible] xs
theorem QueueBusy_no (W : World) (A : Option Addr) (c : Nat) (xs : List OpQ) (hR : RdS (old W) encOpQ 5 A xs) (hn : xs.length ≤ 9223372036854775807) (hr : rightQ xs = false) : FSpec Try.prog 10 #[.slice A xs.length c] (old W) (fun _ : Unit => True) (fun _ => .bool true) (fun _ => old W) := by
  refine FSpec.enter' Try.func10 rfl Try.ntmps10 rfl fun σ F => ?_
  refine J_seq ?_
  refine J_region ?_
  refine L_v (opv_assign rfl) rfl ?_
  refine L_nil ?_
  refine K_then ?_
  refine J_seq ?_
  refine J_seq ?_
  refine J_region ?_
  refine L_v (opv_move rfl) rfl ?_
  refine L_x rfl (opx_call0 (right19_no (old W) A c xs hR hn hr) rfl rfl rfl) (fun _ _ => ?_)
  refine L_v (opv_not rfl) rfl ?_
  refine L_nil ?_
  refine K_then ?_
  refine J_cond_true rfl ?_
  refine J_seq ?_
  refine J_region ?_
  refine L_x rfl (opx_call0 (qawake_spec) rfl rfl rfl) (fun _ _ => ?_)
  refine L_emp ?_
  refine L_v (opv_assign rfl) rfl ?_
  refine L_nil ?_
  refine K_then ?_
  refine J_ret ?_
  refine K_then_ret ?_
  exact K_ret1 rfl rfl () trivial (rfl) (Ent.refl _)

set_option maxHeartbeats 600000 in
theorem QueueBusy_yes (W : World) (A : Option Addr) (c : Nat) (xs : List OpQ) (hR : RdS (old W) encOpQ 5 A xs) (hn : xs.length ≤ 9223372036854775807) (hr : rightQ xs = true) : FSpec Try.prog 10 #[.slice A xs.length c] (old W) (fun _ : Unit => True) (fun _ => .bool true) (fun _ => old W) := by
  refine FSpec.enter' Try.func10 rfl Try.ntmps10 rfl fun σ F => ?_
  refine J_seq ?_
  refine J_region ?_
  refine L_v (opv_assign rfl) rfl ?_
  refine L_nil ?_
  refine K_then ?_
  refine J_seq ?_
  refine J_seq ?_
  refine J_region ?_
  refine L_v (opv_move rfl) rfl ?_
  refine L_x rfl (opx_call0 (right19_yes (old W) A c xs hR hn hr) rfl rfl rfl) (fun _ _ => ?_)
  refine L_v (opv_not rfl) rfl ?_
  refine L_nil ?_
  refine K_then ?_
  refine J_cond_false rfl ?_
  refine J_skip ?_
  refine K_then ?_
  refine J_seq ?_
  refine J_region ?_
  refine L_v (opv_move rfl) rfl ?_
  refine L_x rfl (opx_call0 (gone19_spec (old W) A c xs hR hr) rfl rfl rfl) (fun r hfin => ?_)
  refine L_v (opv_move rfl) rfl ?_
  refine L_v (opv_extract rfl rfl) rfl ?_
  refine L_v (opv_extract rfl rfl) rfl ?_
  refine L_v (opv_extract rfl rfl) rfl ?_
  refine L_v (opv_assign rfl) rfl ?_
  refine L_v (opv_assign rfl) rfl ?_
  refine L_v (opv_assign rfl) rfl ?_
  refine L_nil ?_
  refine K_then ?_
  refine J_seq ?_
  refine J_seq ?_
  obtain ⟨L, ⟨A1, c1⟩, ⟨A2, c2⟩⟩ := r
  obtain ⟨fin, hL100⟩ := hfin
  dsimp only at fin hL100
  have hsh := right_short hr
  refine J_imp (sep (Own 30 4 (.slice A1 L.length c1) L.length (L.flatMap enc)) (sep (old W) (F))) ?_ ?_
  · exact Ent.take
  refine J_know (fun w hs => own_nonnil hs) fun hA1 => ?_
  refine J_region ?_
  refine L_v (opv_move rfl) rfl ?_
  refine L_v (opv_not rfl) rfl ?_
  refine L_v (opv_move rfl) rfl ?_
  refine L_gon rfl rfl rfl ?_
  refine L_v (opv_move rfl) rfl ?_
  refine L_gon rfl rfl rfl ?_
  first
    | refine L_v (opv_lenL rfl) rfl ?_
    | refine L_v (opv_lenS rfl) rfl ?_
  refine L_gon rfl rfl rfl ?_
  refine L_v (opv_move rfl) rfl ?_
  refine L_gon rfl rfl rfl ?_
  first
    | refine L_v (opv_lenL rfl) rfl ?_
    | refine L_v (opv_lenS rfl) rfl ?_
  refine L_gon rfl rfl rfl ?_
  refine L_v ((opv_neq rfl rfl).bool_f (fun n => n rfl)) rfl ?_
  first
    | refine L_v (opv_pick_tt rfl rfl) rfl ?_
    | refine L_v (opv_pick_ff rfl rfl) rfl ?_
    | refine L_v (opv_pick rfl rfl rfl) rfl ?_
  refine L_nil ?_
  refine K_then ?_
  refine J_cond_false rfl ?_
  refine J_skip ?_
  refine K_then ?_
  refine J_seq ?_
  refine J_seq ?_
  refine J_region ?_
  refine L_v (opv_assign rfl) rfl ?_
  refine L_nil ?_
  refine K_then ?_
  refine J_block ?_
  refine J_loop (X := Nat) (fun y => [(0, .slice A xs.length c), (3, .slice A1 L.length c1), (6, .int .i64 y)]) (fun y => (sep (Own 30 4 (.slice A1 L.length c1) L.length (L.flatMap enc)) (sep (old W) (F)))) (fun y => y ≤ L.length) (fun y => L.length - y) (0) (Nat.zero_le _) ⟨rfl, rfl, rfl, trivial⟩ (Ent.refl _) (fun y hy => ?_)
  refine J_seq ?_
  refine J_seq ?_
  refine J_region ?_
  refine L_v (opv_move rfl) rfl ?_
  refine L_v (opv_move rfl) rfl ?_
  first
    | refine L_v (opv_lenL rfl) rfl ?_
    | refine L_v (opv_lenS rfl) rfl ?_
  refine L_v (opv_lss rfl rfl) rfl ?_
  refine L_nil ?_
  refine K_then ?_
  refine J_cond rfl (fun h1 => ?_) (fun h1 => ?_)
  · have hkl : y < L.length := by omega
    obtain ⟨a, ha⟩ : ∃ a, L[y]? = some a := ⟨_, List.getElem?_eq_getElem (by omega)⟩
    have oka := fin.ok a (List.mem_of_getElem? ha)
    have i0a := oka.i0
    have ika := oka.ik
    have eea := oka.en
    have nwa := oka.nw
    have bda := fin.bd a (List.mem_of_getElem? ha)
    have hopa := opAt_get i0a ika
    obtain ⟨b1, o1, rfl⟩ : ∃ b o, A1 = some (ad b o) := by rcases hA1 with ⟨_, _, h, _⟩ | h; omega; exact h
    obtain ⟨b, o, rfl⟩ := hR.nonnil a.id.toNat (by omega)
    refine J_skip ?_
    refine K_then ?_
    refine J_seq ?_
    refine J_block ?_
    refine J_seq ?_
    refine J_seq ?_
    refine J_region ?_
    refine L_v (opv_move rfl) rfl ?_
    refine L_v (opv_move rfl) rfl ?_
    first
      | refine L_v (opv_indexAddr rfl rfl (by omega)) rfl ?_
      | refine L_v (opv_indexAddrA rfl rfl (by omega)) rfl ?_
    first
      | refine L_v (opv_fieldAddr0 rfl) rfl ?_
      | refine L_v (opv_fieldAddr rfl) rfl ?_
    refine L_v (opv_load rfl (Rd.of_take (S := Own 30 4 (.slice (some (ad b1 o1)) L.length c1) L.length (L.flatMap enc)) ((RdS.own (m := 4) (e := 30) (c := c1) enc_len (.inr ⟨b1, o1, rfl⟩)).rd b1 o1 rfl y a 0 _ ha rfl))) rfl ?_
    refine L_v ((opv_lss rfl rfl).bool_f (by omega)) rfl ?_
    refine L_v (opv_move rfl) rfl ?_
    refine L_gon rfl rfl rfl ?_
    refine L_v (opv_move rfl) rfl ?_
    refine L_gon rfl rfl rfl ?_
    refine L_v (opv_move rfl) rfl ?_
    refine L_gon rfl rfl rfl ?_
    first
      | refine L_v (opv_indexAddr rfl rfl (by omega)) rfl ?_
      | refine L_v (opv_indexAddrA rfl rfl (by omega)) rfl ?_
    refine L_gon rfl rfl rfl ?_
    first
      | refine L_v (opv_fieldAddr0 rfl) rfl ?_
      | refine L_v (opv_fieldAddr rfl) rfl ?_
    refine L_gon rfl rfl rfl ?_
    refine L_v (opv_load rfl (Rd.of_take (S := Own 30 4 (.slice (some (ad b1 o1)) L.length c1) L.length (L.flatMap enc)) ((RdS.own (m := 4) (e := 30) (c := c1) enc_len (.inr ⟨b1, o1, rfl⟩)).rd b1 o1 rfl y a 0 _ ha rfl))) rfl ?_
    refine L_gon rfl rfl rfl ?_
    refine L_v (opv_move rfl) rfl ?_
    refine L_gon rfl rfl rfl ?_
    first
      | refine L_v (opv_lenL rfl) rfl ?_
      | refine L_v (opv_lenS rfl) rfl ?_
    refine L_gon rfl rfl rfl ?_
    refine L_v ((opv_geq rfl rfl).bool_f (by omega)) rfl ?_
    first
      | refine L_v (opv_pick_tt rfl rfl) rfl ?_
      | refine L_v (opv_pick_ff rfl rfl) rfl ?_
      | refine L_v (opv_pick rfl rfl rfl) rfl ?_
    refine L_nil ?_
    refine K_then ?_
    refine J_cond_false rfl ?_
    refine J_skip ?_
    refine K_then ?_
    refine J_seq ?_
    refine J_region ?_
    refine L_v (opv_move rfl) rfl ?_
    refine L_v (opv_move rfl) rfl ?_
    refine L_v (opv_move rfl) rfl ?_
    first
      | refine L_v (opv_indexAddr rfl rfl (by omega)) rfl ?_
      | refine L_v (opv_indexAddrA rfl rfl (by omega)) rfl ?_
    first
      | refine L_v (opv_fieldAddr0 rfl) rfl ?_
      | refine L_v (opv_fieldAddr rfl) rfl ?_
    refine L_v (opv_load rfl (Rd.of_take (S := Own 30 4 (.slice (some (ad b1 o1)) L.length c1) L.length (L.flatMap enc)) ((RdS.own (m := 4) (e := 30) (c := c1) enc_len (.inr ⟨b1, o1, rfl⟩)).rd b1 o1 rfl y a 0 _ ha rfl))) rfl ?_
    refine L_v (opv_indexAddr rfl rfl ⟨i0a, ika⟩) rfl ?_
    first
      | refine L_v (opv_fieldAddr0 rfl) rfl ?_
      | refine L_v (opv_fieldAddr rfl) rfl ?_
    refine L_v (opv_load rfl (Rd.of_take (S := old W) (hR.rd b o rfl a.id.toNat (opAt xs a.id) 1 _ hopa rfl))) rfl ?_
    refine L_v (opv_assign rfl) rfl ?_
    refine L_nil ?_
    refine K_then ?_
    refine J_seq ?_
    have hbl := fin.bl y a ha
    obtain ⟨d, hd⟩ : ∃ d, L[y - 1]? = some d := ⟨_, List.getElem?_eq_getElem (by omega)⟩
    refine J_quiet Try.mixed (by kernel_rfl) ?_
    refine Q_v (opv_move rfl) rfl ?_
    refine Q_v (opv_move rfl) rfl ?_
    first
      | refine Q_v (opv_indexAddr rfl rfl (by omega)) rfl ?_
      | refine Q_v (opv_indexAddrA rfl rfl (by omega)) rfl ?_
    first
      | refine Q_v (opv_fieldAddr0 rfl) rfl ?_
      | refine Q_v (opv_fieldAddr rfl) rfl ?_
    refine Q_v (opv_load rfl (Rd.of_take (S := Own 30 4 (.slice (some (ad b1 o1)) L.length c1) L.length (L.flatMap enc)) ((RdS.own (m := 4) (e := 30) (c := c1) enc_len (.inr ⟨b1, o1, rfl⟩)).rd b1 o1 rfl y a 2 _ ha rfl))) rfl ?_
    refine Q_v (opv_move rfl) rfl ?_
    first
      | refine Q_v (opv_neq rfl rfl) rfl ?_
      | refine Q_v (opv_neqS rfl rfl) rfl ?_
      | refine Q_v (opv_neqNil rfl rfl) rfl ?_
      | refine Q_v (opv_neqB rfl rfl) rfl ?_
    refine Q_v (opv_move rfl) rfl ?_
    refine Q_gt rfl rfl (fun h2 => ?_) (fun h2 => ?_) (fun _ h => by cases h; rfl)
    · refine Q_v (opv_move rfl) rfl ?_
      refine Q_gt_on h2 rfl rfl ?_
      refine Q_v ((opv_eql rfl rfl).bool_f (by rcases hbl with hb | ⟨r, hr0, hr1, hr2⟩; exact absurd hb (by assumption); omega)) rfl ?_
      refine Q_gt_on h2 rfl rfl ?_
      refine Q_v (opv_move rfl) rfl ?_
      refine Q_gon rfl rfl rfl ?_
      refine Q_v (opv_move rfl) rfl ?_
      refine Q_gon rfl rfl rfl ?_
      refine Q_v (opv_move rfl) rfl ?_
      refine Q_gon rfl rfl rfl ?_
      first
        | refine Q_v (opv_indexAddr rfl rfl (by omega)) rfl ?_
        | refine Q_v (opv_indexAddrA rfl rfl (by omega)) rfl ?_
      refine Q_gon rfl rfl rfl ?_
      first
        | refine Q_v (opv_fieldAddr0 rfl) rfl ?_
        | refine Q_v (opv_fieldAddr rfl) rfl ?_
      refine Q_gon rfl rfl rfl ?_
      refine Q_v (opv_load rfl (Rd.of_take (S := Own 30 4 (.slice (some (ad b1 o1)) L.length c1) L.length (L.flatMap enc)) ((RdS.own (m := 4) (e := 30) (c := c1) enc_len (.inr ⟨b1, o1, rfl⟩)).rd b1 o1 rfl y a 2 _ ha rfl))) rfl ?_
      refine Q_gon rfl rfl rfl ?_
      refine Q_v (opv_move rfl) rfl ?_
      refine Q_gon rfl rfl rfl ?_
      refine Q_v (opv_move rfl) rfl ?_
      refine Q_gon rfl rfl rfl ?_
      refine Q_v ((opv_sub64 rfl rfl (by omega)).as (v' := .int .i64 ((y - 1 : Nat) : Int)) (congrArg (Value.int .i64) (by rcases hbl with hb | ⟨r, hr0, hr1, hr2⟩; exact absurd hb (by assumption); omega))) rfl ?_
      refine Q_gon rfl rfl rfl ?_
      first
        | refine Q_v (opv_indexAddr rfl rfl (by omega)) rfl ?_
        | refine Q_v (opv_indexAddrA rfl rfl (by omega)) rfl ?_
      refine Q_gon rfl rfl rfl ?_
      first
        | refine Q_v (opv_fieldAddr0 rfl) rfl ?_
        | refine Q_v (opv_fieldAddr rfl) rfl ?_
      refine Q_gon rfl rfl rfl ?_
      refine Q_v (opv_load rfl (Rd.of_take (S := Own 30 4 (.slice (some (ad b1 o1)) L.length c1) L.length (L.flatMap enc)) ((RdS.own (m := 4) (e := 30) (c := c1) enc_len (.inr ⟨b1, o1, rfl⟩)).rd b1 o1 rfl (y - 1) d 3 _ hd rfl))) rfl ?_
      refine Q_gon rfl rfl rfl ?_
      refine Q_v ((opv_neq rfl rfl).bool_f (by rcases hbl with hb | ⟨r, hr0, hr1, hr2⟩; exact absurd hb (by assumption); rw [hr1] at hd; cases hd; omega)) rfl ?_
      refine Q_gt_on h2 rfl rfl ?_
      first
        | refine Q_v (opv_pick_tt rfl rfl) rfl ?_
        | refine Q_v (opv_pick_ff rfl rfl) rfl ?_
        | refine Q_v (opv_pick rfl rfl rfl) rfl ?_
      refine Q_v (opv_pick_t rfl h2 rfl) rfl ?_
      refine QL_nil ?_
      refine K_then ?_
      refine J_cond_false rfl ?_
      refine J_skip ?_
      refine K_block ?_
      refine K_then ?_
      refine J_region ?_
      refine L_v (opv_move rfl) rfl ?_
      first
        | refine L_v (opv_add64 rfl rfl (by omega)) rfl ?_
        | refine L_v (opv_addS rfl rfl (by omega)) rfl ?_
        | refine L_v (opv_add rfl rfl) rfl ?_
      refine L_v (opv_assign rfl) rfl ?_
      refine L_nil ?_
      exact K_loop (y + 1) (by omega) (by omega) ⟨rfl, rfl, rfl, trivial⟩ (Ent.refl _)
    · refine Q_gt_off h2 rfl rfl ?_ (fun _ h => by cases h; rfl)
      refine Q_gt_offU h2 rfl rfl rfl ?_
      refine Q_gU rfl rfl rfl ?_
      refine Q_gU rfl rfl rfl ?_
      refine Q_gU rfl rfl rfl ?_
      refine Q_gU rfl rfl rfl ?_
      refine Q_gU rfl rfl rfl ?_
      refine Q_gU rfl rfl rfl ?_
      refine Q_gU rfl rfl rfl ?_
      refine Q_gU rfl rfl rfl ?_
      refine Q_gU rfl rfl rfl ?_
      refine Q_gU rfl rfl rfl ?_
      refine Q_gU rfl rfl rfl ?_
      refine Q_gU rfl rfl rfl ?_
      refine Q_gt_off h2 rfl rfl ?_ (fun _ h => by cases h; rfl)
      refine Q_v (opv_pick_f rfl h2 rfl) rfl ?_
      refine QL_nil ?_
      refine K_then ?_
      refine J_cond_false rfl ?_
      refine J_skip ?_
      refine K_block ?_
      refine K_then ?_
      refine J_region ?_
      refine L_v (opv_move rfl) rfl ?_
      first
        | refine L_v (opv_add64 rfl rfl (by omega)) rfl ?_
        | refine L_v (opv_addS rfl rfl (by omega)) rfl ?_
        | refine L_v (opv_add rfl rfl) rfl ?_
      refine L_v (opv_assign rfl) rfl ?_
      refine L_nil ?_
      exact K_loop (y + 1) (by omega) (by omega) ⟨rfl, rfl, rfl, trivial⟩ (Ent.refl _)
  · refine J_exit ?_
    refine K_then_exit ?_
    refine K_then_exit ?_
    refine K_block_here ?_
    refine K_then ?_
    refine J_seq ?_
    refine J_region ?_
    refine L_x rfl (opx_call0 (qawake_spec) rfl rfl rfl) (fun _ _ => ?_)
    refine L_emp ?_
    refine L_v (opv_assign rfl) rfl ?_
    refine L_nil ?_
    refine K_then ?_
    refine J_ret ?_
    exact K_ret1 rfl rfl () trivial (rfl) (Ent.trans Ent.take (Ent.refl _))


theorem QueueBusy_law (W : World) (A : Option Addr) (len c : Nat) (xs : List OpQ) (h : ArrIn W encOpQ 5 A len xs) (hl : len ≤ c) (hc : c ≤ maxLen) : FSpec Try.prog 10 #[.slice A len c] (old W) (fun _ : Unit => True) (fun _ => .bool true) (fun _ => old W) := by
  have e := h.1
  subst e
  have hn : xs.length ≤ 9223372036854775807 := by unfold maxLen at hc; omega
  cases hr : rightQ xs with
  | false => exact QueueBusy_no W A c xs (RdS.old h) hn hr
  | true => exact QueueBusy_yes W A c xs (RdS.old h) hn hr

end Go.Proofs.Ytpnpdliimidoaaa
namespace Go.Proofs.Ytpnpdliimidoaaa.queueBusy
open Go.ChangeShapes Go.WideShapes Go.ChangeAt Go.RowKit Go.SLA
open Go.ChangeMaps (open_string shut_string)
set_option linter.unusedVariables false
theorem own : ownKnob Try.prog.godebug = none := by kernel_rfl
theorem laidOut : laidOutB Try.prog = true := by kernel_rfl
set_option maxRecDepth 100000 in
theorem lifted (os : Os) (started : os.Started) (H : Type) (enc : TypeId × Value → H) :
    ReturnsInHanded {} Try.checked os 10 .any (Rows.queueBusySpec.pre6 enc Try.prog Try.f10 Rows.queueBusyRow.domain false) (Rows.queueBusySpec.post enc Try.prog Try.f10 false true false false) := by
  refine returnsInHanded_of_change_sized (C := Try.checked) own started (by kernel_rfl) Try.func10
    (ChangeSpec.witness6 (enc := enc) (C := Try.checked) false ⟨#[], #[.slice none 0 0], []⟩ 8 (by kernel_rfl) (by kernel_rfl) (by kernel_rfl) (by kernel_rfl)) ?_
  intro W base args ds gs before hval0 hW hcnd hsz0 _
  have hsz : (DataW.weightsEach Try.prog (Try.f10.params.toList ++ Rows.queueBusySpec.plain.varTypes Try.prog) (ds ++ gs)).all (· ≤ reachBytes) = true := hsz0
  have hval : ∀ (j : Nat) t v, Try.f10.params[j]? = some t → args[j]? = some v → Value.okWide Try.prog W .any base t v := hval0
  have hW' := hW
  obtain ⟨p, q, hA0, hV, rfl, hfz, hnd⟩ := hW
  have hA : DataW.TrodAll enc Try.prog W 0 (fun _ => true) true Try.f10.params.toList args.toList ds p := hA0
  rw [Try.params10] at hA hval hsz
  obtain ⟨v0, vs0, d0, ds0, p0, q0, hargs, rfl, rfl, h0, r0⟩ := trodAll_cons hA
  obtain ⟨rfl, rfl, rfl⟩ := trodAll_nil r0
  obtain rfl : args = #[v0] := by cases args; simp_all
  obtain ⟨rfl, rfl⟩ := trodVars_none hV
  have k0 := h0
  have lt0 : ∀ x ∈ p0, x.block < W.heap.size := by obtain ⟨m, hm⟩ := k0; exact DataW.trod_lt m _ _ _ hm
  obtain ⟨A0, len0, cap0, xs0, rfl, hl0, hc0, harr0, hok0⟩ := open_arr (D := 3) (ks := ksOpQ) (en := encOpQ) (ok := okOpQ) Try.underlying51 (by kernel_rfl) (by kernel_rfl) (by decide) (fun cs h => decOpQ cs h) (hval 0 51 v0 rfl rfl) h0
  clear hA0 hval0 hsz0 hsz
  refine (FSpec.law (QueueBusy_law W A0 len0 cap0 xs0 harr0 hl0 hc0)).mono fun e W' ⟨he, bel⟩ => ?_
  subst he
  exact ⟨_, rfl, _, _, _, [], _, [], hW', trodAll_mk1 (shut_bool Try.underlying4 _), (trodAll_cons_mk (Below.trod laidOut (by kernel_rfl) (of_decide_eq_true (by kernel_rfl)) k0 bel lt0) trodAll_mk0), rfl, bel.frame _, fun h => by cases h⟩
theorem over : Rows.queueBusyRow.holds Try.pinned (OpenSpec.ofChange Rows.queueBusySpec) :=
  OpenClaim.holds_of_wide 10 Try.f10 rfl rfl rfl rfl rfl rfl rfl ⟨rfl, rfl, rfl, rfl, rfl⟩ rfl rfl rfl rfl rfl (by kernel_rfl) Try.func10 (by kernel_rfl)
    (of_decide_eq_true (by kernel_rfl)) (by unfold Func.isWrapper; first | (rw [if_pos (by decide +kernel)]; kernel_rfl) | (rw [if_neg (by decide +kernel)]; exact ⟨rfl, rfl⟩))
    (fun os started H enc _ => lifted os started H enc)
end Go.Proofs.Ytpnpdliimidoaaa.queueBusy
namespace Go.Proofs.Ytpnpdliimidoaaa
theorem queueBusy_holds : Rows.QueueBusySaid := queueBusy.over
#print axioms queueBusy_holds
end Go.Proofs.Ytpnpdliimidoaaa
namespace Go.Proofs.Ytpnpdliimidoaaa
open Go.SLA
set_option maxRecDepth 100000
attribute [local irreducible] J L K QL Rg FSpec OpV OpX Rd Back xs
theorem QueueNil_big (W : World) (now : Int) (s : ByteArray) (h : 100 < s.size) : FSpec Try.prog 13 #[.int .i64 now, .string s] (old W) (fun _ : Unit => True) (fun _ => .bool true) (fun _ => old W) := by
  refine FSpec.enter' Try.func13 rfl Try.ntmps13 rfl fun σ F => ?_
  refine J_seq ?_
  refine J_region ?_
  refine L_v (opv_assign rfl) rfl ?_
  refine L_nil ?_
  refine K_then ?_
  refine J_seq ?_
  refine J_seq ?_
  refine J_region ?_
  refine L_v (opv_move rfl) rfl ?_
  first
    | refine L_v (opv_lenL rfl) rfl ?_
    | refine L_v (opv_lenS rfl) rfl ?_
  refine L_v ((opv_gtr rfl rfl).bool_t (by omega)) rfl ?_
  refine L_nil ?_
  refine K_then ?_
  refine J_cond_true rfl ?_
  refine J_seq ?_
  refine J_region ?_
  refine L_x rfl (opx_call0 (qawake_spec) rfl rfl rfl) (fun _ _ => ?_)
  refine L_emp ?_
  refine L_v (opv_assign rfl) rfl ?_
  refine L_nil ?_
  refine K_then ?_
  refine J_ret ?_
  refine K_then_ret ?_
  exact K_ret1 rfl rfl () trivial (rfl) Ent.take

theorem QueueNil_ok (W : World) (now : Int) (s : ByteArray) (h : ¬ 100 < s.size) : FSpec Try.prog 13 #[.int .i64 now, .string s] (old W) (fun _ : Unit => True) (fun _ => .bool true) (fun _ => old W) := by
  refine FSpec.enter' Try.func13 rfl Try.ntmps13 rfl fun σ F => ?_
  refine J_seq ?_
  refine J_region ?_
  refine L_v (opv_assign rfl) rfl ?_
  refine L_nil ?_
  refine K_then ?_
  refine J_seq ?_
  refine J_seq ?_
  refine J_region ?_
  refine L_v (opv_move rfl) rfl ?_
  first
    | refine L_v (opv_lenL rfl) rfl ?_
    | refine L_v (opv_lenS rfl) rfl ?_
  refine L_v ((opv_gtr rfl rfl).bool_f (by omega)) rfl ?_
  refine L_nil ?_
  refine K_then ?_
  refine J_cond_false rfl ?_
  refine J_skip ?_
  refine K_then ?_
  refine J_seq ?_
  refine J_region ?_
  refine L_v (opv_assign rfl) rfl ?_
  refine L_nil ?_
  refine K_then ?_
  refine J_seq ?_
  refine J_region ?_
  refine L_v (opv_move rfl) rfl ?_
  refine L_v (opv_move rfl) rfl ?_
  refine L_x rfl (opx_call0 (QPass_nil now) rfl rfl rfl) (fun _ _ => ?_)
  refine L_emp ?_
  refine L_v (opv_move rfl) rfl ?_
  refine L_v (opv_extract rfl rfl) rfl ?_
  refine L_v (opv_extract rfl rfl) rfl ?_
  refine L_v (opv_assign rfl) rfl ?_
  refine L_v (opv_assign rfl) rfl ?_
  refine L_nil ?_
  refine K_then ?_
  refine J_seq ?_
  refine J_region ?_
  refine L_v (opv_move rfl) rfl ?_
  refine L_x rfl (opx_call0 (QWaits_nil) rfl rfl rfl) (fun _ _ => ?_)
  refine L_emp ?_
  refine L_v (opv_move rfl) rfl ?_
  refine L_v (opv_extract rfl rfl) rfl ?_
  refine L_v (opv_extract rfl rfl) rfl ?_
  refine L_v (opv_assign rfl) rfl ?_
  refine L_v (opv_assign rfl) rfl ?_
  refine L_nil ?_
  refine K_then ?_
  refine J_seq ?_
  refine J_region ?_
  refine L_v (opv_move rfl) rfl ?_
  refine L_x rfl (opx_call0 (QDropped_nil) rfl rfl rfl) (fun _ _ => ?_)
  refine L_emp ?_
  refine L_v (opv_move rfl) rfl ?_
  refine L_v (opv_extract rfl rfl) rfl ?_
  refine L_v (opv_extract rfl rfl) rfl ?_
  refine L_v (opv_assign rfl) rfl ?_
  refine L_v (opv_assign rfl) rfl ?_
  refine L_nil ?_
  refine K_then ?_
  refine J_seq ?_
  refine J_region ?_
  refine L_v (opv_move rfl) rfl ?_
  refine L_v (opv_move rfl) rfl ?_
  refine L_v (opv_move rfl) rfl ?_
  refine L_x rfl (opx_call0 (QOffer_nil now 1 true s) rfl rfl rfl) (fun _ _ => ?_)
  refine L_emp ?_
  refine L_v ((opv_eql rfl rfl).bool_t rfl) rfl ?_
  refine L_v (opv_move rfl) rfl ?_
  refine L_gon rfl rfl rfl ?_
  refine L_v (opv_move rfl) rfl ?_
  refine L_gon rfl rfl rfl ?_
  first
    | refine L_v (opv_lenL rfl) rfl ?_
    | refine L_v (opv_lenS rfl) rfl ?_
  refine L_gon rfl rfl rfl ?_
  refine L_v ((opv_eql rfl rfl).bool_t rfl) rfl ?_
  first
    | refine L_v (opv_pick_tt rfl rfl) rfl ?_
    | refine L_v (opv_pick_ff rfl rfl) rfl ?_
    | refine L_v (opv_pick rfl rfl rfl) rfl ?_
  refine L_v (opv_move rfl) rfl ?_
  refine L_gon rfl rfl rfl ?_
  refine L_v (opv_move rfl) rfl ?_
  refine L_gon rfl rfl rfl ?_
  refine L_v ((opv_eql rfl rfl).bool_t rfl) rfl ?_
  first
    | refine L_v (opv_pick_tt rfl rfl) rfl ?_
    | refine L_v (opv_pick_ff rfl rfl) rfl ?_
    | refine L_v (opv_pick rfl rfl rfl) rfl ?_
  refine L_v (opv_move rfl) rfl ?_
  refine L_gon rfl rfl rfl ?_
  refine L_v (opv_move rfl) rfl ?_
  refine L_gon rfl rfl rfl ?_
  refine L_v (opv_move rfl) rfl ?_
  refine L_gon rfl rfl rfl ?_
  first
    | refine L_v (opv_add64 rfl rfl (by omega)) rfl ?_
    | refine L_v (opv_addS rfl rfl (by omega)) rfl ?_
    | refine L_v (opv_add rfl rfl) rfl ?_
  refine L_gon rfl rfl rfl ?_
  refine L_v (opv_move rfl) rfl ?_
  refine L_gon rfl rfl rfl ?_
  first
    | refine L_v (opv_add64 rfl rfl (by omega)) rfl ?_
    | refine L_v (opv_addS rfl rfl (by omega)) rfl ?_
    | refine L_v (opv_add rfl rfl) rfl ?_
  refine L_gon rfl rfl rfl ?_
  refine L_v (opv_move rfl) rfl ?_
  refine L_gon rfl rfl rfl ?_
  first
    | refine L_v (opv_add64 rfl rfl (by omega)) rfl ?_
    | refine L_v (opv_addS rfl rfl (by omega)) rfl ?_
    | refine L_v (opv_add rfl rfl) rfl ?_
  refine L_gon rfl rfl rfl ?_
  refine L_v ((opv_eql rfl rfl).bool_t rfl) rfl ?_
  first
    | refine L_v (opv_pick_tt rfl rfl) rfl ?_
    | refine L_v (opv_pick_ff rfl rfl) rfl ?_
    | refine L_v (opv_pick rfl rfl rfl) rfl ?_
  refine L_v (opv_move rfl) rfl ?_
  refine L_gon rfl rfl rfl ?_
  refine L_x rfl (opx_call0 (qawake_spec) rfl rfl rfl) (fun _ _ => ?_)
  refine L_emp ?_
  first
    | refine L_v (opv_pick_tt rfl rfl) rfl ?_
    | refine L_v (opv_pick_ff rfl rfl) rfl ?_
    | refine L_v (opv_pick rfl rfl rfl) rfl ?_
  refine L_v (opv_assign rfl) rfl ?_
  refine L_nil ?_
  refine K_then ?_
  refine J_ret ?_
  exact K_ret1 rfl rfl () trivial (rfl) Ent.take

theorem QueueNil_law (W : World) (now : Int) (s : ByteArray) : FSpec Try.prog 13 #[.int .i64 now, .string s] (old W) (fun _ : Unit => True) (fun _ => .bool true) (fun _ => old W) := by
  by_cases h : 100 < s.size
  · exact QueueNil_big W now s h
  · exact QueueNil_ok W now s h

end Go.Proofs.Ytpnpdliimidoaaa
namespace Go.Proofs.Ytpnpdliimidoaaa.queueNil
open Go.ChangeShapes Go.WideShapes Go.ChangeAt Go.RowKit Go.SLA
open Go.ChangeMaps (open_string shut_string)
set_option linter.unusedVariables false
theorem own : ownKnob Try.prog.godebug = none := by kernel_rfl
theorem laidOut : laidOutB Try.prog = true := by kernel_rfl
set_option maxRecDepth 100000 in
theorem lifted (os : Os) (started : os.Started) (H : Type) (enc : TypeId × Value → H) :
    ReturnsInHanded {} Try.checked os 13 .any (Rows.queueNilSpec.pre6 enc Try.prog Try.f13 Rows.queueNilRow.domain false) (Rows.queueNilSpec.post enc Try.prog Try.f13 false true false false) := by
  refine returnsInHanded_of_change_sized (C := Try.checked) own started (by kernel_rfl) Try.func13
    (ChangeSpec.witness6 (enc := enc) (C := Try.checked) false ⟨#[], #[.int .i64 0, .string ByteArray.empty], []⟩ 8 (by kernel_rfl) (by kernel_rfl) (by kernel_rfl) (by kernel_rfl)) ?_
  intro W base args ds gs before hval0 hW hcnd hsz0 _
  have hsz : (DataW.weightsEach Try.prog (Try.f13.params.toList ++ Rows.queueNilSpec.plain.varTypes Try.prog) (ds ++ gs)).all (· ≤ reachBytes) = true := hsz0
  have hval : ∀ (j : Nat) t v, Try.f13.params[j]? = some t → args[j]? = some v → Value.okWide Try.prog W .any base t v := hval0
  have hW' := hW
  obtain ⟨p, q, hA0, hV, rfl, hfz, hnd⟩ := hW
  have hA : DataW.TrodAll enc Try.prog W 0 (fun _ => true) true Try.f13.params.toList args.toList ds p := hA0
  rw [Try.params13] at hA hval hsz
  obtain ⟨v0, vs0, d0, ds0, p0, q0, hargs, rfl, rfl, h0, r0⟩ := trodAll_cons hA
  obtain ⟨v1, vs1, d1, ds1, p1, q1, rfl, rfl, rfl, h1, r1⟩ := trodAll_cons r0
  obtain ⟨rfl, rfl, rfl⟩ := trodAll_nil r1
  obtain rfl : args = #[v0, v1] := by cases args; simp_all
  obtain ⟨rfl, rfl⟩ := trodVars_none hV
  have k0 := h0
  have lt0 : ∀ x ∈ p0, x.block < W.heap.size := by obtain ⟨m, hm⟩ := k0; exact DataW.trod_lt m _ _ _ hm
  obtain ⟨a0, rfl, rfl, rfl, w0⟩ := open_int Try.underlying3 (hval 0 3 v0 rfl rfl) h0
  have k1 := h1
  have lt1 : ∀ x ∈ p1, x.block < W.heap.size := by obtain ⟨m, hm⟩ := k1; exact DataW.trod_lt m _ _ _ hm
  obtain ⟨a1, rfl, rfl, rfl, y1⟩ := open_string Try.underlying9 (hval 1 9 v1 rfl rfl) h1
  have z1 := sized_string hsz (j := 1) (t := 9) rfl rfl
  rw [Array.length_toList] at z1
  clear hA0 hval0 hsz0 hsz
  refine (FSpec.law (QueueNil_law W a0 a1)).mono fun e W' ⟨he, bel⟩ => ?_
  subst he
  exact ⟨_, rfl, _, _, _, [], _, [], hW', trodAll_mk1 (shut_bool Try.underlying4 _), (trodAll_cons_mk (Below.trod laidOut (by kernel_rfl) (of_decide_eq_true (by kernel_rfl)) k0 bel lt0) (trodAll_cons_mk (Below.trod laidOut (by kernel_rfl) (of_decide_eq_true (by kernel_rfl)) k1 bel lt1) trodAll_mk0)), rfl, bel.frame _, fun h => by cases h⟩
theorem over : Rows.queueNilRow.holds Try.pinned (OpenSpec.ofChange Rows.queueNilSpec) :=
  OpenClaim.holds_of_wide 13 Try.f13 rfl rfl rfl rfl rfl rfl rfl ⟨rfl, rfl, rfl, rfl, rfl⟩ rfl rfl rfl rfl rfl (by kernel_rfl) Try.func13 (by kernel_rfl)
    (of_decide_eq_true (by kernel_rfl)) (by unfold Func.isWrapper; first | (rw [if_pos (by decide +kernel)]; kernel_rfl) | (rw [if_neg (by decide +kernel)]; exact ⟨rfl, rfl⟩))
    (fun os started H enc _ => lifted os started H enc)
end Go.Proofs.Ytpnpdliimidoaaa.queueNil
namespace Go.Proofs.Ytpnpdliimidoaaa
theorem queueNil_holds : Rows.QueueNilSaid := queueNil.over
#print axioms queueNil_holds
end Go.Proofs.Ytpnpdliimidoaaa
namespace Go.Proofs.Ytpnpdliimidoaaa
open Go.SLA
end Go.Proofs.Ytpnpdliimidoaaa
