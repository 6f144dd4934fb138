/- What all calls make of a wire (package pitotlaw19): a contract of its gone; it is used by the texts that import this one. -/
import Derived.Test.YtpnpdliimidoaaaQe
import Derived.Test.YtpnpdliimidoaaaRows
import Derived.Test.YtpnpdliimidoaaaH
namespace Go.Proofs.Ytpnpdliimidoaaa
open Go.SLA
set_option maxRecDepth 100000
set_option linter.unusedVariables false
set_option linter.unusedSimpArgs false
attribute [local irreducible] J L K QL Rg FSpec OpV OpX Rd Back
attribute [local irreducible] xs

theorem Src.own {P R : HProp} {e m len c : Nat} {A : Option Addr} {l : List Value} [h : Take P (Own e m (.slice A len c) len l) R] (hA : (A = none ∧ c = 0 ∧ len = 0 ∧ l = []) ∨ ∃ b o, A = some (ad b o)) : SLA.Src P (.slice A len c) len l := by
  rcases hA with ⟨rfl, rfl, rfl, rfl⟩ | ⟨b, o, rfl⟩
  · exact .inl ⟨rfl, rfl, rfl⟩
  · exact .inr ⟨b, o, c, rfl, fun j u hj => Rd.of_take (S := Own e m (.slice (some (ad b o)) len c) len l) (Rd.own hj)⟩
theorem QS.out_wt (s : QS) (A : List Sn) : s.out.length + s.wt + A.length = s.many A := by
  obtain ⟨h, l, b, go, out⟩ := s
  cases b <;> simp [QS.wt, QS.many, QS.stt] <;> omega
theorem QS.run_wt (s : QS) (now : Int) : (s.run now).out.length + (s.run now).wt = s.out.length + s.wt := by
  have h1 := QS.out_wt s []
  have h2 := QS.out_wt (s.run now) []
  have h3 := QS.many_run s [] now
  simp only [List.length_nil, Nat.add_zero] at h1 h2
  omega
theorem QS.ok_add {s : QS} {now : Int} {high : Bool} {w : Wt} (h : s.ok) (h0 : 0 ≤ now) (hw : w.tx.size ≤ 1518) : (s.add now high w).ok := by
  obtain ⟨hh, l, b, go, out⟩ := s
  obtain ⟨h1, h2⟩ := h
  cases b with
  | false => exact ⟨h1, by show 0 ≤ now + ((w.tx.size : Int) + 20); omega⟩
  | true =>
    cases high with
    | true =>
      refine ⟨fun v hv => ?_, h2⟩
      rcases hv with hv | hv
      · rcases List.mem_append.1 hv with hv | hv
        · exact h1 v (.inl hv)
        · rw [List.mem_singleton.1 hv]; exact hw
      · exact h1 v (.inr hv)
    | false =>
      refine ⟨fun v hv => ?_, h2⟩
      rcases hv with hv | hv
      · exact h1 v (.inl hv)
      · rcases List.mem_append.1 hv with hv | hv
        · exact h1 v (.inr hv)
        · rw [List.mem_singleton.1 hv]; exact hw
theorem QS.ok_out {s : QS} (h : s.ok) : QS.ok { s with out := [] } := h
/-- An offer on a wire on which there is room. -/
theorem QOffer_add (p : Nat) (s : QS) (cur now id : Int) (high : Bool) (text : ByteArray) (hl : ¬ 1518 < (text.size : Int)) (h : tim cur now = 0) (hok : s.ok) (hn : s.out.length + s.wt ≤ 1000) : FSpec Try.prog 35 #[.pointer (some (ad p 0)), .int .i64 now, .bool high, .int .i64 id, .string text] (OutP p s 1024 1024 0 0 cur) (fun _ : Unit => True) (fun _ => .int .i64 0) (fun _ => OutP p ((s.run now).add now high ⟨id, text⟩) 1024 1024 0 0 now) := by
  have h1 := QS.run_wt s now
  have h2 : (s.run now).h.length + (s.run now).l.length ≤ (s.run now).wt := Nat.le_add_right _ _
  cases hb : (s.run now).b with
  | false =>
    have e : (s.run now).add now high ⟨id, text⟩ = { s.run now with b := true, go := goes ⟨id, text⟩ now } := by unfold QS.add; rw [if_pos hb]
    rw [e]
    cases high with
    | true => exact QOffer_go_true p s 1024 1024 0 0 cur now id text hl h hok (by omega) hb
    | false => exact QOffer_go_false p s 1024 1024 0 0 cur now id text hl h hok (by omega) hb
  | true =>
    cases high with
    | true =>
      have e : (s.run now).add now true ⟨id, text⟩ = { s.run now with h := (s.run now).h ++ [⟨id, text⟩] } := by unfold QS.add; rw [if_neg (by rw [hb]; decide), if_pos rfl]
      rw [e]
      exact QOffer_wait_true p s 1024 1024 0 0 cur now id text hl h hok (by omega) hb (by omega) (by decide)
    | false =>
      have e : (s.run now).add now false ⟨id, text⟩ = { s.run now with l := (s.run now).l ++ [⟨id, text⟩] } := by unfold QS.add; rw [if_neg (by rw [hb]; decide), if_neg (by decide)]
      rw [e]
      exact QOffer_wait_false p s 1024 1024 0 0 cur now id text hl h hok (by omega) hb (by omega) (by decide)
theorem qs0_many : qs0.many [] = 0 := rfl
structure GQ where
  k : Nat
  s : QS
  all : List Sn
  cur : Int
  v : Hd
  u : Hd
  n : Nat
  cs : List Value
theorem many_bound {xs : List OpQ} {k : Nat} {now : Int} {s : QS} {A : List Sn} (i : InvQ xs k now s A) (hn : s.many A ≤ 100) : ¬ (s.b = true ∧ 1125899906842624 < s.go.e) := fun h => by
  have hg : s.go ∈ s.stt A := by unfold QS.stt; rw [if_pos h.1]; exact List.mem_append_right _ (List.mem_singleton.2 rfl)
  have h1 := (i.t.bd s.go hg).2
  have h2 : (s.stt A).length ≤ s.many A := by unfold QS.many; omega
  omega

theorem gone19_spec (R0 : HProp) (A : Option Addr) (c : Nat) (xs : List OpQ) (hR : RdS R0 encOpQ 5 A xs) (hr : rightQ xs = true) : FSpec Try.prog 29 #[.slice A xs.length c] (R0) (fun r : List Sn × Hd × Hd => FinQ xs r.1 ∧ r.1.length ≤ 100) (fun r => .tuple #[.slice r.2.1.1 r.1.length r.2.1.2, .slice r.2.2.1 r.1.length r.2.2.2, .bool true]) (fun r => (sep (R0) (Own 30 4 (.slice r.2.1.1 r.1.length r.2.1.2) r.1.length (r.1.flatMap enc)))) := by
  rw [rightQ, Bool.and_eq_true, decide_eq_true_eq] at hr
  obtain ⟨hok0, hn⟩ := hr
  refine FSpec.enter' Try.func29 rfl Try.ntmps29 rfl fun σ F => ?_
  refine J_seq ?_
  refine J_region ?_
  refine L_v (opv_assign rfl) rfl ?_
  refine L_v (opv_assign rfl) rfl ?_
  refine L_v (opv_assign rfl) rfl ?_
  refine L_nil ?_
  refine K_then ?_
  refine J_seq ?_
  refine J_region ?_
  refine L_x rfl (opx_call0 (QNew_ok 1024 1024 (by decide) (by decide)) rfl rfl rfl) (fun p _ => ?_)
  refine L_v (opv_move rfl) rfl ?_
  refine L_v (opv_extract rfl rfl) rfl ?_
  refine L_v (opv_extract rfl rfl) rfl ?_
  refine L_v (opv_assign rfl) rfl ?_
  refine L_v (opv_assign rfl) rfl ?_
  refine L_nil ?_
  refine K_then ?_
  refine J_seq ?_
  refine J_seq ?_
  refine J_region ?_
  refine L_v (opv_move rfl) rfl ?_
  refine L_v ((opv_neq rfl rfl).bool_f (by decide)) rfl ?_
  refine L_v (opv_move rfl) rfl ?_
  refine L_gon rfl rfl rfl ?_
  refine L_v (opv_move rfl) rfl ?_
  refine L_gon rfl rfl rfl ?_
  first
    | refine L_v (opv_eql rfl rfl) rfl ?_
    | refine L_v (opv_eqlS rfl rfl) rfl ?_
    | refine L_v (opv_eqlNil rfl rfl) rfl ?_
    | refine L_v (opv_eqlB rfl rfl) rfl ?_
  first
    | refine L_v (opv_pick_tt rfl rfl) rfl ?_
    | refine L_v (opv_pick_ff rfl rfl) rfl ?_
    | refine L_v (opv_pick rfl rfl rfl) rfl ?_
  refine L_nil ?_
  refine K_then ?_
  refine J_cond_false rfl ?_
  refine J_skip ?_
  refine K_then ?_
  refine J_seq ?_
  refine J_region ?_
  refine L_v (opv_assign rfl) rfl ?_
  refine L_nil ?_
  refine K_then ?_
  refine J_seq ?_
  refine J_region ?_
  refine L_v (opv_assign rfl) rfl ?_
  refine L_nil ?_
  refine K_then ?_
  refine J_seq ?_
  refine J_seq ?_
  refine J_region ?_
  refine L_v (opv_assign rfl) rfl ?_
  refine L_nil ?_
  refine K_then ?_
  refine J_block ?_
  refine J_loop (X := GQ) (fun y => [(0, .slice A xs.length c), (5, .pointer (some (ad p 0))), (7, .slice y.v.1 y.all.length y.v.2), (8, .slice y.u.1 y.n y.u.2), (9, .int .i64 y.k)]) (fun y => (sep (R0) (sep (OutP p y.s 1024 1024 0 0 y.cur) (sep (Own 30 4 (.slice y.v.1 y.all.length y.v.2) y.all.length (flat y.all)) (sep (Own 81 3 (.slice y.u.1 y.n y.u.2) y.n y.cs) (F)))))) (fun y => y.k ≤ xs.length ∧ InvQ xs y.k y.cur y.s y.all ∧ okAllQ y.cur (xs.drop y.k) = true ∧ (0 ≤ y.cur ∧ y.cur ≤ 281474976710656) ∧ y.s.ok ∧ y.s.many y.all = y.n ∧ y.n ≤ y.k) (fun y => xs.length - y.k) (⟨0, qs0, [], 0, (none, 0), (none, 0), 0, []⟩) ⟨Nat.zero_le _, InvQ.start xs _, hok0, ⟨Int.le_refl _, by decide⟩, qs0_ok, rfl, Nat.le_refl _⟩ ⟨rfl, rfl, rfl, rfl, rfl, trivial⟩ (Ent.trans (Ent.of (sep_left_comm _ _ _)) (Ent.trans (Ent.frame_left (Ent.frame_left (Ent.trans (Ent.of (emp_sep F).symm) (Ent.trans ((Own.nil 81 3).frame F) (Ent.trans (Ent.of (emp_sep _).symm) ((Own.nil 30 4).frame _)))) _) _) (Ent.of (by rfl)))) (fun y hy => ?_)
  obtain ⟨hk, inv, hok, ⟨h0, h0x⟩, hyo, hmy, hny⟩ := hy
  have how := QS.out_wt y.s y.all
  refine J_seq ?_
  refine J_seq ?_
  refine J_region ?_
  refine L_v (opv_move rfl) rfl ?_
  refine L_v (opv_move rfl) rfl ?_
  first
    | refine L_v (opv_lenL rfl) rfl ?_
    | refine L_v (opv_lenS rfl) rfl ?_
  refine L_v (opv_lss rfl rfl) rfl ?_
  refine L_nil ?_
  refine K_then ?_
  refine J_cond rfl (fun h1 => ?_) (fun h1 => ?_)
  · have hkl : y.k < xs.length := by omega
    obtain ⟨x, hx⟩ : ∃ x, xs[y.k]? = some x := ⟨_, List.getElem?_eq_getElem hkl⟩
    obtain ⟨b, o, rfl⟩ := hR.nonnil y.k hkl
    rw [okAllQ_drop hx, Bool.and_eq_true, decide_eq_true_eq] at hok
    obtain ⟨⟨ha, hb, hc2⟩, hok⟩ := hok
    have htim := tim_ok h0 ha hb
    have hrun := inv.run (now := x.now) (by omega)
    have hmr := QS.many_run y.s y.all x.now
    have hrw := QS.run_wt y.s x.now
    refine J_skip ?_
    refine K_then ?_
    refine J_seq ?_
    refine J_block ?_
    refine J_seq ?_
    refine J_region ?_
    refine L_v (opv_move rfl) rfl ?_
    refine L_v (opv_move rfl) rfl ?_
    first
      | refine L_v (opv_indexAddr rfl rfl (by omega)) rfl ?_
      | refine L_v (opv_indexAddrA rfl rfl (by omega)) rfl ?_
    first
      | refine L_v (opv_fieldAddr0 rfl) rfl ?_
      | refine L_v (opv_fieldAddr rfl) rfl ?_
    refine L_v (opv_load rfl (Rd.of_take (S := R0) (hR.rd b o rfl y.k x 0 _ hx rfl))) rfl ?_
    refine L_nil ?_
    refine K_then ?_
    refine J_cond_bool rfl (fun h2 => ?_) (fun h2 => ?_)
    · refine J_seq ?_
      refine J_region ?_
      refine L_v (opv_move rfl) rfl ?_
      refine L_v (opv_move rfl) rfl ?_
      refine L_v (opv_move rfl) rfl ?_
      first
        | refine L_v (opv_indexAddr rfl rfl (by omega)) rfl ?_
        | refine L_v (opv_indexAddrA rfl rfl (by omega)) rfl ?_
      first
        | refine L_v (opv_fieldAddr0 rfl) rfl ?_
        | refine L_v (opv_fieldAddr rfl) rfl ?_
      refine L_v (opv_load rfl (Rd.of_take (S := R0) (hR.rd b o rfl y.k x 1 _ hx rfl))) rfl ?_
      refine L_x rfl (opx_call0 (QPass_ok p y.s 1024 1024 0 0 y.cur x.now htim hyo (by omega)) rfl rfl rfl) (fun r42 _ => ?_)
      refine L_v (opv_move rfl) rfl ?_
      refine L_v (opv_extract rfl rfl) rfl ?_
      refine L_v (opv_extract rfl rfl) rfl ?_
      refine L_v (opv_assign rfl) rfl ?_
      refine L_v (opv_assign rfl) rfl ?_
      refine L_nil ?_
      refine K_then ?_
      refine J_know (fun w hs => own_nonnil (Sat.ent hs (Ent.takes (Q := Own 30 4 (.slice r42.1 (y.s.run x.now).out.length r42.2) (y.s.run x.now).out.length (flat (y.s.run x.now).out))))) fun hg => ?_
      refine J_region ?_
      refine L_v (opv_move rfl) rfl ?_
      refine L_v (opv_move rfl) rfl ?_
      refine L_x rfl (opx_append (m := 4) (B := 40) rfl rfl (Src.own (e := 30) (m := 4) hg) rfl (by omega) (flat_length _) (flat_one _) (by unfold maxLen; omega) (by omega) rfl) (fun y47 _ => ?_)
      refine L_v (opv_assign rfl) rfl ?_
      refine L_nil ?_
      refine K_block ?_
      refine K_then ?_
      refine J_region ?_
      refine L_v (opv_move rfl) rfl ?_
      first
        | refine L_v (opv_add64 rfl rfl (by omega)) rfl ?_
        | refine L_v (opv_addS rfl rfl (by omega)) rfl ?_
        | refine L_v (opv_add rfl rfl) rfl ?_
      refine L_v (opv_assign rfl) rfl ?_
      refine L_nil ?_
      rw [← List.length_append, ← List.flatMap_append]
      have hma := QS.many_answer (y.s.run x.now) y.all
      exact K_loop (⟨y.k + 1, { (y.s.run x.now) with out := [] }, y.all ++ (y.s.run x.now).out, x.now, y47, y.u, y.n, y.cs⟩) ⟨by dsimp only; omega, hrun.1.answer.skip, hok, by dsimp only; omega, QS.ok_out (QS.ok_run hyo), by dsimp only; omega, by dsimp only; omega⟩ (by dsimp only; omega) ⟨rfl, rfl, rfl, rfl, rfl, trivial⟩ Ent.take
    · refine J_seq ?_
      refine J_steps (R0) (R0) [] Try.mixed ?_
      refine R_pure 0 rfl (by kernel_rfl) (by kernel_rfl) (by kernel_rfl) (by kernel_rfl) (.inr ⟨_, Take.eq (A := R0)⟩) (opv_move rfl) rfl ?_
      refine R_pure 1 rfl (by kernel_rfl) (by kernel_rfl) (by kernel_rfl) (by kernel_rfl) (.inr ⟨_, Take.eq (A := R0)⟩) (opv_move rfl) rfl ?_
      refine R_pure 2 rfl (by kernel_rfl) (by kernel_rfl) (by kernel_rfl) (by kernel_rfl) (.inr ⟨_, Take.eq (A := R0)⟩) (opv_move rfl) rfl ?_
      first
        | refine R_pure 3 rfl (by kernel_rfl) (by kernel_rfl) (by kernel_rfl) (by kernel_rfl) (.inr ⟨_, Take.eq (A := R0)⟩) (opv_indexAddr rfl rfl (by omega)) rfl ?_
        | refine R_pure 3 rfl (by kernel_rfl) (by kernel_rfl) (by kernel_rfl) (by kernel_rfl) (.inr ⟨_, Take.eq (A := R0)⟩) (opv_indexAddrA rfl rfl (by omega)) rfl ?_
      first
        | refine R_pure 4 rfl (by kernel_rfl) (by kernel_rfl) (by kernel_rfl) (by kernel_rfl) (.inr ⟨_, Take.eq (A := R0)⟩) (opv_fieldAddr0 rfl) rfl ?_
        | refine R_pure 4 rfl (by kernel_rfl) (by kernel_rfl) (by kernel_rfl) (by kernel_rfl) (.inr ⟨_, Take.eq (A := R0)⟩) (opv_fieldAddr rfl) rfl ?_
      refine R_take 5 rfl (by kernel_rfl) (by kernel_rfl) (by kernel_rfl) (by kernel_rfl) (by kernel_rfl) (opv_load rfl (hR.rd b o rfl y.k x 1 _ hx rfl)) rfl ?_
      refine R_pure 6 rfl (by kernel_rfl) (by kernel_rfl) (by kernel_rfl) (by kernel_rfl) (.inr ⟨_, Take.eq (A := R0)⟩) (opv_move rfl) rfl ?_
      refine R_pure 7 rfl (by kernel_rfl) (by kernel_rfl) (by kernel_rfl) (by kernel_rfl) (.inr ⟨_, Take.eq (A := R0)⟩) (opv_move rfl) rfl ?_
      first
        | refine R_pure 8 rfl (by kernel_rfl) (by kernel_rfl) (by kernel_rfl) (by kernel_rfl) (.inr ⟨_, Take.eq (A := R0)⟩) (opv_indexAddr rfl rfl (by omega)) rfl ?_
        | refine R_pure 8 rfl (by kernel_rfl) (by kernel_rfl) (by kernel_rfl) (by kernel_rfl) (.inr ⟨_, Take.eq (A := R0)⟩) (opv_indexAddrA rfl rfl (by omega)) rfl ?_
      first
        | refine R_pure 9 rfl (by kernel_rfl) (by kernel_rfl) (by kernel_rfl) (by kernel_rfl) (.inr ⟨_, Take.eq (A := R0)⟩) (opv_fieldAddr0 rfl) rfl ?_
        | refine R_pure 9 rfl (by kernel_rfl) (by kernel_rfl) (by kernel_rfl) (by kernel_rfl) (.inr ⟨_, Take.eq (A := R0)⟩) (opv_fieldAddr rfl) rfl ?_
      refine R_take 10 rfl (by kernel_rfl) (by kernel_rfl) (by kernel_rfl) (by kernel_rfl) (by kernel_rfl) (opv_load rfl (hR.rd b o rfl y.k x 2 _ hx rfl)) rfl ?_
      refine R_pure 11 rfl (by kernel_rfl) (by kernel_rfl) (by kernel_rfl) (by kernel_rfl) (.inr ⟨_, Take.eq (A := R0)⟩) (opv_move rfl) rfl ?_
      refine R_pure 12 rfl (by kernel_rfl) (by kernel_rfl) (by kernel_rfl) (by kernel_rfl) (.inr ⟨_, Take.eq (A := R0)⟩) (opv_move rfl) rfl ?_
      refine R_pure 13 rfl (by kernel_rfl) (by kernel_rfl) (by kernel_rfl) (by kernel_rfl) (.inr ⟨_, Take.eq (A := R0)⟩) (opv_move rfl) rfl ?_
      first
        | refine R_pure 14 rfl (by kernel_rfl) (by kernel_rfl) (by kernel_rfl) (by kernel_rfl) (.inr ⟨_, Take.eq (A := R0)⟩) (opv_indexAddr rfl rfl (by omega)) rfl ?_
        | refine R_pure 14 rfl (by kernel_rfl) (by kernel_rfl) (by kernel_rfl) (by kernel_rfl) (.inr ⟨_, Take.eq (A := R0)⟩) (opv_indexAddrA rfl rfl (by omega)) rfl ?_
      first
        | refine R_pure 15 rfl (by kernel_rfl) (by kernel_rfl) (by kernel_rfl) (by kernel_rfl) (.inr ⟨_, Take.eq (A := R0)⟩) (opv_fieldAddr0 rfl) rfl ?_
        | refine R_pure 15 rfl (by kernel_rfl) (by kernel_rfl) (by kernel_rfl) (by kernel_rfl) (.inr ⟨_, Take.eq (A := R0)⟩) (opv_fieldAddr rfl) rfl ?_
      refine R_take 16 rfl (by kernel_rfl) (by kernel_rfl) (by kernel_rfl) (by kernel_rfl) (by kernel_rfl) (opv_load rfl (hR.rd b o rfl y.k x 4 _ hx rfl)) rfl ?_
      refine R_only 17 rfl rfl (by kernel_rfl) (opx_call0 (QOffer_add p y.s y.cur x.now (y.k : Int) x.high x.text hc2 htim hyo (by omega)) rfl rfl rfl) (fun _ _ => ⟨_, Take.eq (A := R0)⟩) (.inr fun _ _ => ⟨_, Take.eq (A := R0)⟩) (fun _ _ => ?_)
      refine R_pure 18 rfl (by kernel_rfl) (by kernel_rfl) (by kernel_rfl) (by kernel_rfl) (.inr ⟨_, Take.eq (A := R0)⟩) ((opv_eql rfl rfl).bool_t rfl) rfl ?_
      refine R_done (by kernel_rfl) ?_
      refine K_then ?_
      refine J_cond_true rfl ?_
      refine J_steps (R0) (R0) [] Try.mixed ?_
      refine R_pure 0 rfl (by kernel_rfl) (by kernel_rfl) (by kernel_rfl) (by kernel_rfl) (.inr ⟨_, Take.eq (A := R0)⟩) (opv_move rfl) rfl ?_
      refine R_pure 1 rfl (by kernel_rfl) (by kernel_rfl) (by kernel_rfl) (by kernel_rfl) (.inr ⟨_, Take.eq (A := R0)⟩) (opv_move rfl) rfl ?_
      refine R_pure 2 rfl (by kernel_rfl) (by kernel_rfl) (by kernel_rfl) (by kernel_rfl) (.inr ⟨_, Take.eq (A := R0)⟩) (opv_move rfl) rfl ?_
      first
        | refine R_pure 3 rfl (by kernel_rfl) (by kernel_rfl) (by kernel_rfl) (by kernel_rfl) (.inr ⟨_, Take.eq (A := R0)⟩) (opv_indexAddr rfl rfl (by omega)) rfl ?_
        | refine R_pure 3 rfl (by kernel_rfl) (by kernel_rfl) (by kernel_rfl) (by kernel_rfl) (.inr ⟨_, Take.eq (A := R0)⟩) (opv_indexAddrA rfl rfl (by omega)) rfl ?_
      first
        | refine R_pure 4 rfl (by kernel_rfl) (by kernel_rfl) (by kernel_rfl) (by kernel_rfl) (.inr ⟨_, Take.eq (A := R0)⟩) (opv_fieldAddr0 rfl) rfl ?_
        | refine R_pure 4 rfl (by kernel_rfl) (by kernel_rfl) (by kernel_rfl) (by kernel_rfl) (.inr ⟨_, Take.eq (A := R0)⟩) (opv_fieldAddr rfl) rfl ?_
      refine R_take 5 rfl (by kernel_rfl) (by kernel_rfl) (by kernel_rfl) (by kernel_rfl) (by kernel_rfl) (opv_load rfl (hR.rd b o rfl y.k x 1 _ hx rfl)) rfl ?_
      refine R_pure 6 rfl (by kernel_rfl) (by kernel_rfl) (by kernel_rfl) (by kernel_rfl) (.inr ⟨_, Take.eq (A := R0)⟩) (opv_move rfl) rfl ?_
      refine R_pure 7 rfl (by kernel_rfl) (by kernel_rfl) (by kernel_rfl) (by kernel_rfl) (.inr ⟨_, Take.eq (A := R0)⟩) (opv_move rfl) rfl ?_
      first
        | refine R_pure 8 rfl (by kernel_rfl) (by kernel_rfl) (by kernel_rfl) (by kernel_rfl) (.inr ⟨_, Take.eq (A := R0)⟩) (opv_indexAddr rfl rfl (by omega)) rfl ?_
        | refine R_pure 8 rfl (by kernel_rfl) (by kernel_rfl) (by kernel_rfl) (by kernel_rfl) (.inr ⟨_, Take.eq (A := R0)⟩) (opv_indexAddrA rfl rfl (by omega)) rfl ?_
      first
        | refine R_pure 9 rfl (by kernel_rfl) (by kernel_rfl) (by kernel_rfl) (by kernel_rfl) (.inr ⟨_, Take.eq (A := R0)⟩) (opv_fieldAddr0 rfl) rfl ?_
        | refine R_pure 9 rfl (by kernel_rfl) (by kernel_rfl) (by kernel_rfl) (by kernel_rfl) (.inr ⟨_, Take.eq (A := R0)⟩) (opv_fieldAddr rfl) rfl ?_
      refine R_take 10 rfl (by kernel_rfl) (by kernel_rfl) (by kernel_rfl) (by kernel_rfl) (by kernel_rfl) (opv_load rfl (hR.rd b o rfl y.k x 2 _ hx rfl)) rfl ?_
      refine R_pure 11 rfl (by kernel_rfl) (by kernel_rfl) (by kernel_rfl) (by kernel_rfl) (.inr ⟨_, Take.eq (A := R0)⟩) (opv_move rfl) rfl ?_
      refine R_pure 12 rfl (by kernel_rfl) (by kernel_rfl) (by kernel_rfl) (by kernel_rfl) (.inr ⟨_, Take.eq (A := R0)⟩) (opv_build rfl) rfl ?_
      refine R_only 13 rfl rfl (by kernel_rfl) (opx_buildSlice1 (m := 3) rfl rfl (by omega) (by omega) rfl) (fun _ _ => ⟨_, Take.eq (A := R0)⟩) (.inr fun _ _ => ⟨_, Take.eq (A := R0)⟩) (fun b80 _ => ?_)
      refine R_only 14 rfl rfl (by kernel_rfl) (opx_append (m := 3) (B := 24) rfl rfl (Src.lit) rfl (by omega) rfl (by simp [Value.oneCell']) (by unfold maxLen; omega) (by omega) rfl) (fun _ _ => ⟨_, Take.eq (A := R0)⟩) (.inr fun _ _ => ⟨_, Take.eq (A := R0)⟩) (fun y81 _ => ?_)
      refine R_pure 15 rfl (by kernel_rfl) (by kernel_rfl) (by kernel_rfl) (by kernel_rfl) (.inr ⟨_, Take.eq (A := R0)⟩) (opv_assign rfl) rfl ?_
      refine R_done (by kernel_rfl) ?_
      refine K_block ?_
      refine K_then ?_
      refine J_region ?_
      refine L_v (opv_move rfl) rfl ?_
      first
        | refine L_v (opv_add64 rfl rfl (by omega)) rfl ?_
        | refine L_v (opv_addS rfl rfl (by omega)) rfl ?_
        | refine L_v (opv_add rfl rfl) rfl ?_
      refine L_v (opv_assign rfl) rfl ?_
      refine L_nil ?_
      have hma := QS.many_add (y.s.run x.now) y.all x.now x.high ⟨y.k, x.text⟩
      exact K_loop (⟨y.k + 1, (y.s.run x.now).add x.now x.high ⟨y.k, x.text⟩, y.all, x.now, y.v, y81, y.n + 1, y.cs ++ [.int .i64 x.now, .bool x.high, .int .i64 y.k]⟩) ⟨by dsimp only; omega, InvQ.add hx (by omega) (by omega) (by omega) hrun.1 hrun.2, hok, by dsimp only; omega, QS.ok_add (QS.ok_run hyo) (by omega) (by dsimp only; omega), by dsimp only; omega, by dsimp only; omega⟩ (by dsimp only; omega) ⟨rfl, rfl, rfl, rfl, rfl, trivial⟩ Ent.take
  · have he : y.k = xs.length := by omega
    have hrun := inv.run (now := 1125899906842624) (by omega)
    have hmr := QS.many_run y.s y.all 1125899906842624
    have hrw := QS.run_wt y.s 1125899906842624
    have hbf : (y.s.run 1125899906842624).b = false := by
      cases hb : (y.s.run 1125899906842624).b with
      | false => rfl
      | true => exact absurd ⟨hb, hrun.2 hb⟩ (many_bound hrun.1 (by omega))
    have hfin := InvQ.fin (xs := xs) (by rw [← he]; exact hrun.1) hbf
    have hlen : (y.all ++ (y.s.run 1125899906842624).out).length = y.n := by omega
    refine J_exit ?_
    refine K_then_exit ?_
    refine K_then_exit ?_
    refine K_block_here ?_
    refine K_then ?_
    refine J_seq ?_
    refine J_region ?_
    refine L_v (opv_move rfl) rfl ?_
    refine L_x rfl (opx_call0 (QPass_ok p y.s 1024 1024 0 0 y.cur 1125899906842624 (by unfold tim; rw [if_neg (by omega), if_neg (by omega)]) hyo (by omega)) rfl rfl rfl) (fun r84 _ => ?_)
    refine L_v (opv_move rfl) rfl ?_
    refine L_v (opv_extract rfl rfl) rfl ?_
    refine L_v (opv_extract rfl rfl) rfl ?_
    refine L_v (opv_assign rfl) rfl ?_
    refine L_v (opv_assign rfl) rfl ?_
    refine L_nil ?_
    refine K_then ?_
    refine J_seq ?_
    refine J_know (fun w hs => own_nonnil (Sat.ent hs (Ent.takes (Q := Own 30 4 (.slice r84.1 (y.s.run 1125899906842624).out.length r84.2) (y.s.run 1125899906842624).out.length (flat (y.s.run 1125899906842624).out))))) fun hg => ?_
    refine J_region ?_
    refine L_v (opv_move rfl) rfl ?_
    refine L_v (opv_move rfl) rfl ?_
    refine L_x rfl (opx_append (m := 4) (B := 40) rfl rfl (Src.own (e := 30) (m := 4) hg) rfl (by omega) (flat_length _) (flat_one _) (by unfold maxLen; omega) (by omega) rfl) (fun y89 _ => ?_)
    rw [← List.length_append, ← List.flatMap_append]
    refine L_v (opv_move rfl) rfl ?_
    refine L_v (opv_move rfl) rfl ?_
    refine L_v ((opv_eql rfl rfl).bool_t rfl) rfl ?_
    refine L_v (opv_assign rfl) rfl ?_
    refine L_v (opv_assign rfl) rfl ?_
    refine L_v (opv_assign rfl) rfl ?_
    refine L_nil ?_
    refine K_then ?_
    refine J_ret ?_
    have hl100 : (y.all ++ (y.s.run 1125899906842624).out).length ≤ 100 := by omega
    rw [← hlen]
    exact K_ret3 rfl rfl rfl rfl (y.all ++ (y.s.run 1125899906842624).out, y89, y.u) ⟨hfin.1, hl100⟩ rfl Ent.take

end Go.Proofs.Ytpnpdliimidoaaa
