/- The law QueueLine of the package pitotlaw19 holds for every input: texts of one kind go just as on a wire of chapter 14. No condition. -/
import Derived.Test.YtpnpdliimidoaaaQx
import Derived.Test.YtpnpdliimidoaaaH
namespace Go.Proofs.Ytpnpdliimidoaaa
open Go.SLA
set_option maxRecDepth 100000
set_option linter.unusedVariables false
set_option linter.unusedSimpArgs false
attribute [local irreducible] J L K QL Rg FSpec OpV OpX Rd Back
attribute [local irreducible] xs
/-- What waits, as it will go, from a tick on. -/
def sch (t : Int) : List Wt → List Sn
  | [] => []
  | w :: ws => goes w t :: sch (t + ((w.tx.size : Int) + 20)) ws
def schEnd (t : Int) : List Wt → Int
  | [] => t
  | w :: ws => schEnd (t + ((w.tx.size : Int) + 20)) ws
theorem sch_snoc (w : Wt) : ∀ (t : Int) (ws : List Wt), sch t (ws ++ [w]) = sch t ws ++ [goes w (schEnd t ws)]
  | _, [] => rfl
  | t, v :: ws => by
    show goes v t :: sch _ (ws ++ [w]) = goes v t :: (sch _ ws ++ _)
    rw [sch_snoc w _ ws]
    rfl
theorem schEnd_snoc (w : Wt) : ∀ (t : Int) (ws : List Wt), schEnd t (ws ++ [w]) = schEnd t ws + ((w.tx.size : Int) + 20)
  | _, [] => rfl
  | _, _ :: ws => schEnd_snoc w _ ws
theorem schEnd_ge : ∀ (t : Int) (ws : List Wt), t ≤ schEnd t ws
  | t, [] => Int.le_refl _
  | t, w :: ws => by
    have := schEnd_ge (t + ((w.tx.size : Int) + 20)) ws
    show t ≤ schEnd (t + ((w.tx.size : Int) + 20)) ws
    omega
theorem sch_len : ∀ (t : Int) (ws : List Wt), (sch t ws).length = ws.length
  | _, [] => rfl
  | _, _ :: ws => congrArg (· + 1) (sch_len _ ws)
/-- What is on the wire and not answered, as it goes; and when the wire is free. -/
def QS.full (s : QS) : List Sn := s.out ++ (if s.b = true then s.go :: sch s.go.e (s.h ++ s.l) else [])
def QS.fin (s : QS) : Int := if s.b = true then schEnd s.go.e (s.h ++ s.l) else s.go.e
/-- A wire on which all are of one kind. -/
structure InvL (hi : Bool) (s : QS) (cur : Int) : Prop where
  idle : s.b = false → s.h = [] ∧ s.l = [] ∧ s.go.e ≤ cur
  outs : ∀ x ∈ s.out, x.e ≤ cur
  one : if hi = true then s.l = [] else s.h = []
theorem InvL.step {hi : Bool} {s : QS} {now : Int} (i : InvL hi s now) (hb : s.b = true) (he : s.go.e ≤ now) : s.step.full = s.full ∧ s.step.fin = s.fin ∧ InvL hi s.step now := by
  obtain ⟨h, l, b, go, out⟩ := s
  obtain ⟨i1, i2, i3⟩ := i
  dsimp only at hb he
  subst hb
  have ho : ∀ x ∈ out ++ [go], x.e ≤ now := fun x hx => by
    rcases List.mem_append.1 hx with hx | hx
    · exact i2 x hx
    · rw [List.mem_singleton.1 hx]; exact he
  cases h with
  | cons w h =>
    refine ⟨?_, rfl, fun n => (by cases n), ho, ?_⟩
    · show (out ++ [go]) ++ (goes w go.e :: sch (go.e + ((w.tx.size : Int) + 20)) (h ++ l)) = out ++ (go :: goes w go.e :: sch (go.e + ((w.tx.size : Int) + 20)) (h ++ l))
      simp
    · cases hi with
      | true => exact i3
      | false => exact absurd i3 (by intro n; cases n)
  | nil =>
    cases l with
    | cons w l =>
      refine ⟨?_, rfl, fun n => (by cases n), ho, ?_⟩
      · show (out ++ [go]) ++ (goes w go.e :: sch (go.e + ((w.tx.size : Int) + 20)) ([] ++ l)) = out ++ (go :: goes w go.e :: sch (go.e + ((w.tx.size : Int) + 20)) l)
        simp
      · cases hi with
        | true => exact absurd i3 (by intro n; cases n)
        | false => rfl
    | nil =>
      refine ⟨?_, rfl, fun _ => ⟨rfl, rfl, he⟩, ho, by cases hi <;> rfl⟩
      show (out ++ [go]) ++ [] = out ++ [go]
      simp
theorem InvL.mono {hi : Bool} {s : QS} {cur now : Int} (i : InvL hi s cur) (h : cur ≤ now) : InvL hi s now :=
  ⟨fun hb => ⟨(i.idle hb).1, (i.idle hb).2.1, by have := (i.idle hb).2.2; omega⟩, fun x hx => by have := i.outs x hx; omega, i.one⟩
theorem InvL.run {hi : Bool} {s : QS} {cur now : Int} (i : InvL hi s cur) (h : cur ≤ now) : ((s.run now).full = s.full ∧ (s.run now).fin = s.fin ∧ InvL hi (s.run now) now) ∧ ((s.run now).b = true → now < (s.run now).go.e) :=
  QS.run_ind (p := fun r => r.full = s.full ∧ r.fin = s.fin ∧ InvL hi r now) (fun r hb he hp => by
    obtain ⟨h1, h2, h3⟩ := hp
    obtain ⟨g1, g2, g3⟩ := h3.step hb he
    exact ⟨g1.trans h1, g2.trans h2, g3⟩) s ⟨rfl, rfl, i.mono h⟩
theorem fst_app {now : Int} {c : List Sn} (hc : ∀ y, c.head? = some y → now < y.e) : ∀ a : List Sn, (∀ x ∈ a, x.e ≤ now) → fst (a ++ c) now = a.length
  | [], _ => by
    cases c with
    | nil => rfl
    | cons y c => unfold fst; rw [List.nil_append, List.findIdx_cons]; simp [hc y rfl]
  | x :: a, h => by
    have ih := fst_app hc a (fun y hy => h y (List.mem_cons_of_mem _ hy))
    have hx := h x (List.mem_cons_self ..)
    unfold fst at ih ⊢
    rw [List.cons_append, List.findIdx_cons, ih]
    simp [show ¬ now < x.e by omega]
theorem InvL.split {hi : Bool} {s : QS} {now : Int} (i : InvL hi s now) (hb : s.b = true → now < s.go.e) : s.full.take (fst s.full now) = s.out ∧ s.full.drop (fst s.full now) = QS.full { s with out := [] } := by
  have e : fst s.full now = s.out.length := fst_app (fun y hy => by
    by_cases h : s.b = true
    · rw [if_pos h] at hy
      cases hy
      exact hb h
    · rw [if_neg h] at hy; cases hy) _ i.outs
  rw [e]
  unfold QS.full
  exact ⟨List.take_left' rfl, List.drop_left' rfl⟩
theorem InvL.answer {hi : Bool} {s : QS} {now : Int} (i : InvL hi s now) : InvL hi { s with out := [] } now := ⟨i.idle, fun x hx => (by cases hx), i.one⟩
theorem InvL.add {hi : Bool} {s : QS} {now : Int} (i : InvL hi s now) (hb : s.b = true → now < s.go.e) (w : Wt) : (s.add now hi w).full = s.full ++ [⟨w.id, w.tx, if s.fin > now then s.fin else now, (if s.fin > now then s.fin else now) + ((w.tx.size : Int) + 20)⟩]
    ∧ (s.add now hi w).fin = (if s.fin > now then s.fin else now) + ((w.tx.size : Int) + 20) ∧ InvL hi (s.add now hi w) now := by
  obtain ⟨h, l, b, go, out⟩ := s
  obtain ⟨i1, i2, i3⟩ := i
  cases b with
  | false =>
    obtain ⟨e1, e2, e3⟩ := i1 rfl
    dsimp only at e1 e2 e3
    subst e1 e2
    have ef : QS.fin ⟨[], [], false, go, out⟩ = go.e := rfl
    rw [ef, if_neg (by omega)]
    refine ⟨?_, rfl, fun n => (by cases n), i2, i3⟩
    show out ++ [goes w now] = (out ++ []) ++ [goes w now]
    simp
  | true =>
    have hg := hb rfl
    have ef : QS.fin ⟨h, l, true, go, out⟩ = schEnd go.e (h ++ l) := rfl
    have hge := schEnd_ge go.e (h ++ l)
    dsimp only at hg
    rw [ef, if_pos (by omega)]
    cases hi with
    | true =>
      have e : l = [] := i3
      subst e
      refine ⟨?_, ?_, fun n => (by cases n), i2, rfl⟩
      · show out ++ (go :: sch go.e ((h ++ [w]) ++ [])) = (out ++ (go :: sch go.e (h ++ []))) ++ [goes w (schEnd go.e (h ++ []))]
        rw [List.append_nil, List.append_nil, sch_snoc]
        simp
      · show schEnd go.e ((h ++ [w]) ++ []) = schEnd go.e (h ++ []) + _
        rw [List.append_nil, List.append_nil, schEnd_snoc]
    | false =>
      have e : h = [] := i3
      subst e
      refine ⟨?_, ?_, fun n => (by cases n), i2, rfl⟩
      · show out ++ (go :: sch go.e (l ++ [w])) = (out ++ (go :: sch go.e l)) ++ [goes w (schEnd go.e l)]
        rw [sch_snoc]
        simp
      · show schEnd go.e (l ++ [w]) = schEnd go.e l + _
        rw [schEnd_snoc]
theorem InvL.count {hi : Bool} {s : QS} {cur : Int} (i : InvL hi s cur) : s.out.length + s.wt = s.full.length := by
  obtain ⟨h, l, b, go, out⟩ := s
  cases b with
  | false =>
    obtain ⟨e1, e2, _⟩ := i.idle rfl
    dsimp only at e1 e2
    subst e1 e2
    simp [QS.wt, QS.full]
  | true => simp [QS.wt, QS.full, sch_len]
theorem QS.full_answer (s : QS) : (QS.full { s with out := [] }).length ≤ s.full.length := by unfold QS.full; simp
theorem QS.fin_answer (s : QS) : QS.fin { s with out := [] } = s.fin := rfl


theorem LPass (r : Nat) (hi : Bool) (s : QS) (cur now : Int) (i : InvL hi s cur) (h : tim cur now = 0) (hc : cur ≤ now) (hn : s.full.length ≤ 1000) : FSpec Try.prog 20 #[.pointer (some (ad r 0)), .int .i64 now] (LineP r s.full cur s.fin) (fun _ : Hd => True)
    (fun x => .tuple #[.slice x.1 (s.run now).out.length x.2, .int .i64 0]) (fun x => GoneP r x (s.run now).out (QS.full { s.run now with out := [] }) now (QS.fin { s.run now with out := [] })) := by
  obtain ⟨⟨h1, h2, h3⟩, h4⟩ := i.run hc
  have := Pass_ok r s.full cur s.fin now h (by omega)
  have e1 : s.full.take (fst s.full now) = (s.run now).out := by rw [← h1]; exact (h3.split h4).1
  have e2 : s.full.drop (fst s.full now) = QS.full { s.run now with out := [] } := by rw [← h1]; exact (h3.split h4).2
  have e3 : QS.fin { s.run now with out := [] } = s.fin := (QS.fin_answer _).trans h2
  rw [e1, e2] at this
  rw [e3]
  exact this
theorem LOffer (r : Nat) (hi : Bool) (s : QS) (cur now id : Int) (text : ByteArray) (i : InvL hi s cur) (h : tim cur now = 0) (hc : cur ≤ now) (hs : ¬ 1518 < (text.size : Int)) (hf : 0 ≤ s.fin ∧ s.fin ≤ 2000000000000000000) (hn : s.full.length ≤ 1000) : FSpec Try.prog 19 #[.pointer (some (ad r 0)), .int .i64 now, .int .i64 id, .string text] (LineP r s.full cur s.fin) (fun _ : Unit => True)
    (fun _ => .int .i64 0) (fun _ => LineP r ((s.run now).add now hi ⟨id, text⟩).full now ((s.run now).add now hi ⟨id, text⟩).fin) := by
  obtain ⟨⟨h1, h2, h3⟩, h4⟩ := i.run hc
  obtain ⟨a1, a2, a3⟩ := h3.add h4 ⟨id, text⟩
  have := Offer_ok r s.full cur s.fin now id text hf h hs (by omega)
  rw [a1, a2, h1, h2]
  exact this
theorem InvL.full_add {hi : Bool} {s : QS} {now : Int} {w : Wt} (i : InvL hi s now) (hb : s.b = true → now < s.go.e) : (s.add now hi w).full.length = s.full.length + 1 := by rw [(i.add hb w).1, List.length_append]; rfl
structure LQ where
  k : Nat
  s : QS
  cur : Int

theorem QL_no (W : World) (A : Option Addr) (c : Nat) (xs : List OpQ) (hi : Bool) (hR : RdS (old W) encOpQ 5 A xs) (hn : xs.length ≤ 9223372036854775807) (hr : rightQ xs = false) : FSpec Try.prog 14 #[.slice A xs.length c, .bool hi] (old W) (fun _ : Unit => True) (fun _ => .bool true) (fun _ => old W) := by
  refine FSpec.enter' Try.func14 rfl Try.ntmps14 rfl fun σ F => ?_
  refine J_seq ?_
  refine J_region ?_
  refine L_v (opv_assign rfl) rfl ?_
  refine L_nil ?_
  refine K_then ?_
  refine J_seq ?_
  refine J_seq ?_
  refine J_region ?_
  refine L_v (opv_move rfl) rfl ?_
  refine L_x rfl (opx_call0 (right19_no (old W) A c xs hR hn hr) rfl rfl rfl) (fun _ _ => ?_)
  refine L_v (opv_not rfl) rfl ?_
  refine L_nil ?_
  refine K_then ?_
  refine J_cond_true rfl ?_
  refine J_seq ?_
  refine J_region ?_
  refine L_x rfl (opx_call0 (qawake_spec) rfl rfl rfl) (fun _ _ => ?_)
  refine L_emp ?_
  refine L_v (opv_assign rfl) rfl ?_
  refine L_nil ?_
  refine K_then ?_
  refine J_ret ?_
  refine K_then_ret ?_
  exact K_ret1 rfl rfl () trivial (rfl) (Ent.refl _)

set_option maxHeartbeats 600000 in
theorem QL_yes (W : World) (A : Option Addr) (c : Nat) (xs : List OpQ) (hi : Bool) (hR : RdS (old W) encOpQ 5 A xs) (hn : xs.length ≤ 9223372036854775807) (hr : rightQ xs = true) : FSpec Try.prog 14 #[.slice A xs.length c, .bool hi] (old W) (fun _ : Unit => True) (fun _ => .bool true) (fun _ => old W) := by
  have hokk := hr
  rw [rightQ, Bool.and_eq_true, decide_eq_true_eq] at hokk
  obtain ⟨hok0, hsh⟩ := hokk
  refine FSpec.enter' Try.func14 rfl Try.ntmps14 rfl fun σ F => ?_
  refine J_seq ?_
  refine J_region ?_
  refine L_v (opv_assign rfl) rfl ?_
  refine L_nil ?_
  refine K_then ?_
  refine J_seq ?_
  refine J_seq ?_
  refine J_region ?_
  refine L_v (opv_move rfl) rfl ?_
  refine L_x rfl (opx_call0 (right19_yes (old W) A c xs hR hn hr) rfl rfl rfl) (fun _ _ => ?_)
  refine L_v (opv_not rfl) rfl ?_
  refine L_nil ?_
  refine K_then ?_
  refine J_cond_false rfl ?_
  refine J_skip ?_
  refine K_then ?_
  refine J_seq ?_
  refine J_region ?_
  refine L_x rfl (opx_call0 (QNew_ok 1024 1024 (by decide) (by decide)) rfl rfl rfl) (fun p _ => ?_)
  refine L_v (opv_move rfl) rfl ?_
  refine L_v (opv_extract rfl rfl) rfl ?_
  refine L_v (opv_extract rfl rfl) rfl ?_
  refine L_v (opv_assign rfl) rfl ?_
  refine L_v (opv_assign rfl) rfl ?_
  refine L_nil ?_
  refine K_then ?_
  refine J_seq ?_
  refine J_region ?_
  refine L_x rfl (opx_call0 (New_spec) rfl rfl rfl) (fun r _ => ?_)
  refine L_v (opv_assign rfl) rfl ?_
  refine L_nil ?_
  refine K_then ?_
  refine J_seq ?_
  refine J_seq ?_
  refine J_region ?_
  refine L_v (opv_move rfl) rfl ?_
  refine L_v ((opv_neq rfl rfl).bool_f (by decide)) rfl ?_
  refine L_v (opv_move rfl) rfl ?_
  refine L_gon rfl rfl rfl ?_
  refine L_v (opv_move rfl) rfl ?_
  refine L_gon rfl rfl rfl ?_
  first
    | refine L_v (opv_eql rfl rfl) rfl ?_
    | refine L_v (opv_eqlS rfl rfl) rfl ?_
    | refine L_v (opv_eqlNil rfl rfl) rfl ?_
    | refine L_v (opv_eqlB rfl rfl) rfl ?_
  first
    | refine L_v (opv_pick_tt rfl rfl) rfl ?_
    | refine L_v (opv_pick_ff rfl rfl) rfl ?_
    | refine L_v (opv_pick rfl rfl rfl) rfl ?_
  refine L_v (opv_move rfl) rfl ?_
  refine L_gon rfl rfl rfl ?_
  refine L_v (opv_move rfl) rfl ?_
  refine L_gon rfl rfl rfl ?_
  first
    | refine L_v (opv_eql rfl rfl) rfl ?_
    | refine L_v (opv_eqlS rfl rfl) rfl ?_
    | refine L_v (opv_eqlNil rfl rfl) rfl ?_
    | refine L_v (opv_eqlB rfl rfl) rfl ?_
  first
    | refine L_v (opv_pick_tt rfl rfl) rfl ?_
    | refine L_v (opv_pick_ff rfl rfl) rfl ?_
    | refine L_v (opv_pick rfl rfl rfl) rfl ?_
  refine L_nil ?_
  refine K_then ?_
  refine J_cond_false rfl ?_
  refine J_skip ?_
  refine K_then ?_
  refine J_seq ?_
  refine J_seq ?_
  refine J_region ?_
  refine L_v (opv_assign rfl) rfl ?_
  refine L_nil ?_
  refine K_then ?_
  refine J_block ?_
  refine J_loop (X := LQ) (fun y => [(0, .slice A xs.length c), (1, .bool hi), (5, .pointer (some (ad p 0))), (7, .pointer (some (ad r 0))), (8, .int .i64 y.k)]) (fun y => (sep (OutP p y.s 1024 1024 0 0 y.cur) (sep (LineP r y.s.full y.cur y.s.fin) (sep (old W) (F))))) (fun y => y.k ≤ xs.length ∧ InvL hi y.s y.cur ∧ okAllQ y.cur (xs.drop y.k) = true ∧ (0 ≤ y.cur ∧ y.cur ≤ 281474976710656) ∧ y.s.ok ∧ y.s.full.length ≤ y.k ∧ (0 ≤ y.s.fin ∧ y.s.fin ≤ 281474976710656 + 1538 * y.k)) (fun y => xs.length - y.k) (⟨0, qs0, 0⟩) ⟨Nat.zero_le _, ⟨fun _ => ⟨rfl, rfl, Int.le_refl _⟩, fun x hx => (by cases hx), (by cases hi <;> rfl)⟩, hok0, ⟨Int.le_refl _, by decide⟩, qs0_ok, Nat.le_refl _, ⟨Int.le_refl _, by decide⟩⟩ ⟨rfl, rfl, rfl, rfl, rfl, trivial⟩ (Ent.take (Q := (sep (OutP p qs0 1024 1024 0 0 0) (sep (LineP r [] 0 0) (sep (old W) (F)))))) (fun y hy => ?_)
  obtain ⟨hk, inv, hok, ⟨h0, h0x⟩, hyo, hfl, hf0, hf1⟩ := hy
  have how := inv.count
  refine J_seq ?_
  refine J_seq ?_
  refine J_region ?_
  refine L_v (opv_move rfl) rfl ?_
  refine L_v (opv_move rfl) rfl ?_
  first
    | refine L_v (opv_lenL rfl) rfl ?_
    | refine L_v (opv_lenS rfl) rfl ?_
  refine L_v (opv_lss rfl rfl) rfl ?_
  refine L_nil ?_
  refine K_then ?_
  refine J_cond rfl (fun h1 => ?_) (fun h1 => ?_)
  · have hkl : y.k < xs.length := by omega
    obtain ⟨x, hx⟩ : ∃ x, xs[y.k]? = some x := ⟨_, List.getElem?_eq_getElem hkl⟩
    obtain ⟨b, o, rfl⟩ := hR.nonnil y.k hkl
    rw [okAllQ_drop hx, Bool.and_eq_true, decide_eq_true_eq] at hok
    obtain ⟨⟨ha, hb, hc2⟩, hok⟩ := hok
    have htim := tim_ok h0 ha hb
    have hcn : y.cur ≤ x.now := by omega
    obtain ⟨⟨r1, r2, r3⟩, r4⟩ := inv.run hcn
    have hcr := r3.count
    have hcl := congrArg List.length r1
    refine J_skip ?_
    refine K_then ?_
    refine J_seq ?_
    refine J_block ?_
    refine J_seq ?_
    refine J_seq ?_
    refine J_region ?_
    refine L_v (opv_move rfl) rfl ?_
    refine L_v (opv_move rfl) rfl ?_
    first
      | refine L_v (opv_indexAddr rfl rfl (by omega)) rfl ?_
      | refine L_v (opv_indexAddrA rfl rfl (by omega)) rfl ?_
    first
      | refine L_v (opv_fieldAddr0 rfl) rfl ?_
      | refine L_v (opv_fieldAddr rfl) rfl ?_
    refine L_v (opv_load rfl (Rd.of_take (S := old W) (hR.rd b o rfl y.k x 0 _ hx rfl))) rfl ?_
    refine L_v (opv_not rfl) rfl ?_
    refine L_nil ?_
    refine K_then ?_
    refine J_cond_bool rfl (fun h2 => ?_) (fun h2 => ?_)
    · refine J_seq ?_
      refine J_seq ?_
      refine J_steps (old W) (old W) [] Try.mixed ?_
      refine R_pure 0 rfl (by kernel_rfl) (by kernel_rfl) (by kernel_rfl) (by kernel_rfl) (.inr ⟨_, Take.eq (A := old W)⟩) (opv_move rfl) rfl ?_
      refine R_pure 1 rfl (by kernel_rfl) (by kernel_rfl) (by kernel_rfl) (by kernel_rfl) (.inr ⟨_, Take.eq (A := old W)⟩) (opv_move rfl) rfl ?_
      refine R_pure 2 rfl (by kernel_rfl) (by kernel_rfl) (by kernel_rfl) (by kernel_rfl) (.inr ⟨_, Take.eq (A := old W)⟩) (opv_move rfl) rfl ?_
      first
        | refine R_pure 3 rfl (by kernel_rfl) (by kernel_rfl) (by kernel_rfl) (by kernel_rfl) (.inr ⟨_, Take.eq (A := old W)⟩) (opv_indexAddr rfl rfl (by omega)) rfl ?_
        | refine R_pure 3 rfl (by kernel_rfl) (by kernel_rfl) (by kernel_rfl) (by kernel_rfl) (.inr ⟨_, Take.eq (A := old W)⟩) (opv_indexAddrA rfl rfl (by omega)) rfl ?_
      first
        | refine R_pure 4 rfl (by kernel_rfl) (by kernel_rfl) (by kernel_rfl) (by kernel_rfl) (.inr ⟨_, Take.eq (A := old W)⟩) (opv_fieldAddr0 rfl) rfl ?_
        | refine R_pure 4 rfl (by kernel_rfl) (by kernel_rfl) (by kernel_rfl) (by kernel_rfl) (.inr ⟨_, Take.eq (A := old W)⟩) (opv_fieldAddr rfl) rfl ?_
      refine R_take 5 rfl (by kernel_rfl) (by kernel_rfl) (by kernel_rfl) (by kernel_rfl) (by kernel_rfl) (opv_load rfl (hR.rd b o rfl y.k x 1 _ hx rfl)) rfl ?_
      refine R_pure 6 rfl (by kernel_rfl) (by kernel_rfl) (by kernel_rfl) (by kernel_rfl) (.inr ⟨_, Take.eq (A := old W)⟩) (opv_move rfl) rfl ?_
      refine R_pure 7 rfl (by kernel_rfl) (by kernel_rfl) (by kernel_rfl) (by kernel_rfl) (.inr ⟨_, Take.eq (A := old W)⟩) (opv_move rfl) rfl ?_
      refine R_pure 8 rfl (by kernel_rfl) (by kernel_rfl) (by kernel_rfl) (by kernel_rfl) (.inr ⟨_, Take.eq (A := old W)⟩) (opv_move rfl) rfl ?_
      refine R_pure 9 rfl (by kernel_rfl) (by kernel_rfl) (by kernel_rfl) (by kernel_rfl) (.inr ⟨_, Take.eq (A := old W)⟩) (opv_move rfl) rfl ?_
      first
        | refine R_pure 10 rfl (by kernel_rfl) (by kernel_rfl) (by kernel_rfl) (by kernel_rfl) (.inr ⟨_, Take.eq (A := old W)⟩) (opv_indexAddr rfl rfl (by omega)) rfl ?_
        | refine R_pure 10 rfl (by kernel_rfl) (by kernel_rfl) (by kernel_rfl) (by kernel_rfl) (.inr ⟨_, Take.eq (A := old W)⟩) (opv_indexAddrA rfl rfl (by omega)) rfl ?_
      first
        | refine R_pure 11 rfl (by kernel_rfl) (by kernel_rfl) (by kernel_rfl) (by kernel_rfl) (.inr ⟨_, Take.eq (A := old W)⟩) (opv_fieldAddr0 rfl) rfl ?_
        | refine R_pure 11 rfl (by kernel_rfl) (by kernel_rfl) (by kernel_rfl) (by kernel_rfl) (.inr ⟨_, Take.eq (A := old W)⟩) (opv_fieldAddr rfl) rfl ?_
      refine R_take 12 rfl (by kernel_rfl) (by kernel_rfl) (by kernel_rfl) (by kernel_rfl) (by kernel_rfl) (opv_load rfl (hR.rd b o rfl y.k x 4 _ hx rfl)) rfl ?_
      refine R_pure 14 rfl (by kernel_rfl) (by kernel_rfl) (by kernel_rfl) (by kernel_rfl) (.inr ⟨_, Take.eq (A := old W)⟩) (opv_move rfl) rfl ?_
      refine R_pure 15 rfl (by kernel_rfl) (by kernel_rfl) (by kernel_rfl) (by kernel_rfl) (.inr ⟨_, Take.eq (A := old W)⟩) (opv_move rfl) rfl ?_
      refine R_pure 16 rfl (by kernel_rfl) (by kernel_rfl) (by kernel_rfl) (by kernel_rfl) (.inr ⟨_, Take.eq (A := old W)⟩) (opv_move rfl) rfl ?_
      first
        | refine R_pure 17 rfl (by kernel_rfl) (by kernel_rfl) (by kernel_rfl) (by kernel_rfl) (.inr ⟨_, Take.eq (A := old W)⟩) (opv_indexAddr rfl rfl (by omega)) rfl ?_
        | refine R_pure 17 rfl (by kernel_rfl) (by kernel_rfl) (by kernel_rfl) (by kernel_rfl) (.inr ⟨_, Take.eq (A := old W)⟩) (opv_indexAddrA rfl rfl (by omega)) rfl ?_
      first
        | refine R_pure 18 rfl (by kernel_rfl) (by kernel_rfl) (by kernel_rfl) (by kernel_rfl) (.inr ⟨_, Take.eq (A := old W)⟩) (opv_fieldAddr0 rfl) rfl ?_
        | refine R_pure 18 rfl (by kernel_rfl) (by kernel_rfl) (by kernel_rfl) (by kernel_rfl) (.inr ⟨_, Take.eq (A := old W)⟩) (opv_fieldAddr rfl) rfl ?_
      refine R_take 19 rfl (by kernel_rfl) (by kernel_rfl) (by kernel_rfl) (by kernel_rfl) (by kernel_rfl) (opv_load rfl (hR.rd b o rfl y.k x 1 _ hx rfl)) rfl ?_
      refine R_pure 20 rfl (by kernel_rfl) (by kernel_rfl) (by kernel_rfl) (by kernel_rfl) (.inr ⟨_, Take.eq (A := old W)⟩) (opv_move rfl) rfl ?_
      refine R_pure 21 rfl (by kernel_rfl) (by kernel_rfl) (by kernel_rfl) (by kernel_rfl) (.inr ⟨_, Take.eq (A := old W)⟩) (opv_move rfl) rfl ?_
      refine R_pure 22 rfl (by kernel_rfl) (by kernel_rfl) (by kernel_rfl) (by kernel_rfl) (.inr ⟨_, Take.eq (A := old W)⟩) (opv_move rfl) rfl ?_
      first
        | refine R_pure 23 rfl (by kernel_rfl) (by kernel_rfl) (by kernel_rfl) (by kernel_rfl) (.inr ⟨_, Take.eq (A := old W)⟩) (opv_indexAddr rfl rfl (by omega)) rfl ?_
        | refine R_pure 23 rfl (by kernel_rfl) (by kernel_rfl) (by kernel_rfl) (by kernel_rfl) (.inr ⟨_, Take.eq (A := old W)⟩) (opv_indexAddrA rfl rfl (by omega)) rfl ?_
      first
        | refine R_pure 24 rfl (by kernel_rfl) (by kernel_rfl) (by kernel_rfl) (by kernel_rfl) (.inr ⟨_, Take.eq (A := old W)⟩) (opv_fieldAddr0 rfl) rfl ?_
        | refine R_pure 24 rfl (by kernel_rfl) (by kernel_rfl) (by kernel_rfl) (by kernel_rfl) (.inr ⟨_, Take.eq (A := old W)⟩) (opv_fieldAddr rfl) rfl ?_
      refine R_take 25 rfl (by kernel_rfl) (by kernel_rfl) (by kernel_rfl) (by kernel_rfl) (by kernel_rfl) (opv_load rfl (hR.rd b o rfl y.k x 4 _ hx rfl)) rfl ?_
      refine R_only 13 rfl rfl (by kernel_rfl) (opx_call0 (QOffer_add p y.s y.cur x.now (y.k : Int) hi x.text hc2 htim hyo (by omega)) rfl rfl rfl) (fun _ _ => ⟨_, Take.eq (A := old W)⟩) (.inr fun _ _ => ⟨_, Take.eq (A := old W)⟩) (fun _ _ => ?_)
      refine R_only 26 rfl rfl (by kernel_rfl) (opx_call0 (LOffer r hi y.s y.cur x.now (y.k : Int) x.text inv htim hcn hc2 (by omega) (by omega)) rfl rfl rfl) (fun _ _ => ⟨_, Take.eq (A := old W)⟩) (.inr fun _ _ => ⟨_, Take.eq (A := old W)⟩) (fun _ _ => ?_)
      refine R_pure 27 rfl (by kernel_rfl) (by kernel_rfl) (by kernel_rfl) (by kernel_rfl) (.inr ⟨_, Take.eq (A := old W)⟩) ((opv_neq rfl rfl).bool_f (fun n => n rfl)) rfl ?_
      refine R_done (by kernel_rfl) ?_
      refine K_then ?_
      refine J_cond_false rfl ?_
      refine J_skip ?_
      refine K_then ?_
      refine J_exit ?_
      refine K_then_exit ?_
      refine K_block_here ?_
      refine K_then ?_
      refine J_region ?_
      refine L_v (opv_move rfl) rfl ?_
      first
        | refine L_v (opv_add64 rfl rfl (by omega)) rfl ?_
        | refine L_v (opv_addS rfl rfl (by omega)) rfl ?_
        | refine L_v (opv_add rfl rfl) rfl ?_
      refine L_v (opv_assign rfl) rfl ?_
      refine L_nil ?_
      have hfa := r3.full_add (w := ⟨y.k, x.text⟩) r4
      obtain ⟨a1, a2, a3⟩ := r3.add r4 ⟨y.k, x.text⟩
      exact K_loop (⟨y.k + 1, ((y.s.run x.now).add x.now hi ⟨y.k, x.text⟩), x.now⟩) ⟨by dsimp only; omega, a3, hok, by dsimp only; omega, QS.ok_add (QS.ok_run hyo) (by omega) (by dsimp only; omega), by dsimp only; rw [hfa, r1]; omega, by dsimp only; rw [a2, r2]; dsimp only; split <;> omega⟩ (by dsimp only; omega) ⟨rfl, rfl, rfl, rfl, rfl, trivial⟩ Ent.take
    · refine J_skip ?_
      refine K_then ?_
      refine J_seq ?_
      refine J_region ?_
      refine L_v (opv_move rfl) rfl ?_
      refine L_v (opv_move rfl) rfl ?_
      refine L_v (opv_move rfl) rfl ?_
      first
        | refine L_v (opv_indexAddr rfl rfl (by omega)) rfl ?_
        | refine L_v (opv_indexAddrA rfl rfl (by omega)) rfl ?_
      first
        | refine L_v (opv_fieldAddr0 rfl) rfl ?_
        | refine L_v (opv_fieldAddr rfl) rfl ?_
      refine L_v (opv_load rfl (Rd.of_take (S := old W) (hR.rd b o rfl y.k x 1 _ hx rfl))) rfl ?_
      refine L_x rfl (opx_call0 (QPass_ok p y.s 1024 1024 0 0 y.cur x.now htim hyo (by omega)) rfl rfl rfl) (fun r9 _ => ?_)
      refine L_v (opv_move rfl) rfl ?_
      refine L_v (opv_extract rfl rfl) rfl ?_
      refine L_v (opv_extract rfl rfl) rfl ?_
      refine L_v (opv_assign rfl) rfl ?_
      refine L_v (opv_assign rfl) rfl ?_
      refine L_nil ?_
      refine K_then ?_
      refine J_seq ?_
      refine J_region ?_
      refine L_v (opv_move rfl) rfl ?_
      refine L_v (opv_move rfl) rfl ?_
      refine L_v (opv_move rfl) rfl ?_
      first
        | refine L_v (opv_indexAddr rfl rfl (by omega)) rfl ?_
        | refine L_v (opv_indexAddrA rfl rfl (by omega)) rfl ?_
      first
        | refine L_v (opv_fieldAddr0 rfl) rfl ?_
        | refine L_v (opv_fieldAddr rfl) rfl ?_
      refine L_v (opv_load rfl (Rd.of_take (S := old W) (hR.rd b o rfl y.k x 1 _ hx rfl))) rfl ?_
      refine L_x rfl (opx_call0 (LPass r hi y.s y.cur x.now inv htim hcn (by omega)) rfl rfl rfl) (fun x11 _ => ?_)
      refine L_v (opv_move rfl) rfl ?_
      refine L_v (opv_extract rfl rfl) rfl ?_
      refine L_v (opv_extract rfl rfl) rfl ?_
      refine L_v (opv_assign rfl) rfl ?_
      refine L_v (opv_assign rfl) rfl ?_
      refine L_nil ?_
      refine K_then ?_
      refine J_seq ?_
      refine J_seq ?_
      refine J_region ?_
      refine L_v (opv_move rfl) rfl ?_
      refine L_v (opv_move rfl) rfl ?_
      refine L_v ((opv_neq rfl rfl).bool_f (fun n => n rfl)) rfl ?_
      refine L_v (opv_move rfl) rfl ?_
      refine L_gon rfl rfl rfl ?_
      refine L_v (opv_move rfl) rfl ?_
      refine L_gon rfl rfl rfl ?_
      first
        | refine L_v (opv_lenL rfl) rfl ?_
        | refine L_v (opv_lenS rfl) rfl ?_
      refine L_gon rfl rfl rfl ?_
      refine L_v (opv_move rfl) rfl ?_
      refine L_gon rfl rfl rfl ?_
      first
        | refine L_v (opv_lenL rfl) rfl ?_
        | refine L_v (opv_lenS rfl) rfl ?_
      refine L_gon rfl rfl rfl ?_
      refine L_v ((opv_neq rfl rfl).bool_f (fun n => n rfl)) rfl ?_
      first
        | refine L_v (opv_pick_tt rfl rfl) rfl ?_
        | refine L_v (opv_pick_ff rfl rfl) rfl ?_
        | refine L_v (opv_pick rfl rfl rfl) rfl ?_
      refine L_nil ?_
      refine K_then ?_
      refine J_cond_false rfl ?_
      refine J_skip ?_
      refine K_then ?_
      refine J_seq ?_
      obtain ⟨A9, c9⟩ := r9
      refine J_imp (sep (GoneP r x11 (y.s.run x.now).out (QS.full { (y.s.run x.now) with out := [] }) x.now (QS.fin { (y.s.run x.now) with out := [] })) (sep (Own 30 4 (.slice A9 (y.s.run x.now).out.length c9) (y.s.run x.now).out.length (flat (y.s.run x.now).out)) (sep (OutP p { (y.s.run x.now) with out := [] } 1024 1024 0 0 x.now) (sep (old W) (F))))) ?_ ?_
      · exact Ent.take
      refine J_know (fun w hs => GoneP.some (p := r) (x := x11) (g := (y.s.run x.now).out) (q := QS.full { (y.s.run x.now) with out := [] }) (cur := x.now) (free := QS.fin { (y.s.run x.now) with out := [] }) hs) fun hx9 => ?_
      refine J_know (fun w hs => own_nonnil hs.drop) fun hA9 => ?_
      refine J_region ?_
      refine L_v (opv_assign rfl) rfl ?_
      refine L_nil ?_
      refine K_then ?_
      refine J_block ?_
      refine J_loop (X := Nat) (fun i => [(0, .slice (some (ad b o)) xs.length c), (1, .bool hi), (5, .pointer (some (ad p 0))), (7, .pointer (some (ad r 0))), (8, .int .i64 y.k), (9, .slice A9 (y.s.run x.now).out.length c9), (11, .slice x11.1 (y.s.run x.now).out.length x11.2), (13, .int .i64 i)]) (fun i => (sep (GoneP r x11 (y.s.run x.now).out (QS.full { (y.s.run x.now) with out := [] }) x.now (QS.fin { (y.s.run x.now) with out := [] })) (sep (Own 30 4 (.slice A9 (y.s.run x.now).out.length c9) (y.s.run x.now).out.length (flat (y.s.run x.now).out)) (sep (OutP p { (y.s.run x.now) with out := [] } 1024 1024 0 0 x.now) (sep (old W) (F)))))) (fun i => i ≤ (y.s.run x.now).out.length) (fun i => (y.s.run x.now).out.length - i) (0) (Nat.zero_le _) ⟨rfl, rfl, rfl, rfl, rfl, rfl, rfl, rfl, trivial⟩ (Ent.refl _) (fun i hil => ?_)
      refine J_seq ?_
      refine J_seq ?_
      refine J_region ?_
      refine L_v (opv_move rfl) rfl ?_
      refine L_v (opv_move rfl) rfl ?_
      first
        | refine L_v (opv_lenL rfl) rfl ?_
        | refine L_v (opv_lenS rfl) rfl ?_
      refine L_v (opv_lss rfl rfl) rfl ?_
      refine L_nil ?_
      refine K_then ?_
      refine J_cond rfl (fun h3 => ?_) (fun h3 => ?_)
      · have hgl : i < (y.s.run x.now).out.length := by omega
        obtain ⟨z, hz⟩ : ∃ z, (y.s.run x.now).out[i]? = some z := ⟨_, List.getElem?_eq_getElem hgl⟩
        obtain ⟨bb, oo, rfl⟩ : ∃ bb oo, x11 = (some (ad bb oo), (y.s.run x.now).out.length) := by rcases hx9 with ⟨_, h⟩ | h; rw [h] at hgl; simp at hgl; exact h
        obtain ⟨b3, o3, rfl⟩ : ∃ b o, A9 = some (ad b o) := by rcases hA9 with ⟨_, _, h, _⟩ | h; omega; exact h
        refine J_skip ?_
        refine K_then ?_
        refine J_seq ?_
        refine J_block ?_
        refine J_seq ?_
        refine J_quiet Try.mixed (by kernel_rfl) ?_
        refine Q_v (opv_move rfl) rfl ?_
        refine Q_v (opv_move rfl) rfl ?_
        first
          | refine Q_v (opv_indexAddr rfl rfl (by omega)) rfl ?_
          | refine Q_v (opv_indexAddrA rfl rfl (by omega)) rfl ?_
        refine Q_v (opv_loadN (vs := [.int .i64 z.id, .string z.tx, .int .i64 z.b, .int .i64 z.e]) rfl rfl (fun j u hj => Rd.of_take (S := Own 30 4 (.slice (some (ad b3 o3)) (y.s.run x.now).out.length c9) (y.s.run x.now).out.length (flat (y.s.run x.now).out)) ((RdS.own (m := 4) (e := 30) (c := c9) enc_len (.inr ⟨b3, o3, rfl⟩)).rd b3 o3 rfl i z j u hz hj))) rfl ?_
        refine Q_v (opv_move rfl) rfl ?_
        refine Q_v (opv_move rfl) rfl ?_
        first
          | refine Q_v (opv_indexAddr rfl rfl (by omega)) rfl ?_
          | refine Q_v (opv_indexAddrA rfl rfl (by omega)) rfl ?_
        refine Q_v (opv_loadN (vs := [.int .i64 z.id, .string z.tx, .int .i64 z.b, .int .i64 z.e]) rfl rfl (fun j u hj => GoneP.reads (p := r) (x := (some (ad bb oo), (y.s.run x.now).out.length)) (g := (y.s.run x.now).out) (q := QS.full { (y.s.run x.now) with out := [] }) (cur := x.now) (free := QS.fin { (y.s.run x.now) with out := [] }) (i := i) (j := j) (y := z) rfl hz hj)) rfl ?_
        refine Q_v ((opv_neqF rfl rfl (by simp [Shape, CK.sh]) (by simp [Shape, CK.sh])).bool_f (fun n => n rfl)) rfl ?_
        refine QL_nil ?_
        refine K_then ?_
        refine J_cond_false rfl ?_
        refine J_skip ?_
        refine K_block ?_
        refine K_then ?_
        refine J_region ?_
        refine L_v (opv_move rfl) rfl ?_
        first
          | refine L_v (opv_add64 rfl rfl (by omega)) rfl ?_
          | refine L_v (opv_addS rfl rfl (by omega)) rfl ?_
          | refine L_v (opv_add rfl rfl) rfl ?_
        refine L_v (opv_assign rfl) rfl ?_
        refine L_nil ?_
        exact K_loop (i + 1) (by omega) (by omega) ⟨rfl, rfl, rfl, rfl, rfl, rfl, rfl, rfl, trivial⟩ (Ent.refl _)
      · refine J_exit ?_
        refine K_then_exit ?_
        refine K_then_exit ?_
        refine K_block_here ?_
        refine K_block ?_
        refine K_then ?_
        refine J_region ?_
        refine L_v (opv_move rfl) rfl ?_
        first
          | refine L_v (opv_add64 rfl rfl (by omega)) rfl ?_
          | refine L_v (opv_addS rfl rfl (by omega)) rfl ?_
          | refine L_v (opv_add rfl rfl) rfl ?_
        refine L_v (opv_assign rfl) rfl ?_
        refine L_nil ?_
        have hfa := QS.full_answer (y.s.run x.now)
        exact K_loop (⟨y.k + 1, { (y.s.run x.now) with out := [] }, x.now⟩) ⟨by dsimp only; omega, r3.answer, hok, by dsimp only; omega, QS.ok_out (QS.ok_run hyo), by dsimp only; rw [r1] at hfa; omega, by dsimp only; rw [QS.fin_answer, r2]; omega⟩ (by dsimp only; omega) ⟨rfl, rfl, rfl, rfl, rfl, trivial⟩ (Ent.trans (Ent.swap (GoneP.forget (p := r) (x := x11) (g := (y.s.run x.now).out) (q := QS.full { (y.s.run x.now) with out := [] }) (cur := x.now) (free := QS.fin { (y.s.run x.now) with out := [] }))) Ent.take)
  · refine J_exit ?_
    refine K_then_exit ?_
    refine K_then_exit ?_
    refine K_block_here ?_
    refine K_then ?_
    refine J_seq ?_
    refine J_region ?_
    refine L_v (opv_move rfl) rfl ?_
    refine L_x rfl (opx_call0 (QPass_ok p y.s 1024 1024 0 0 y.cur 1125899906842624 (by unfold tim; rw [if_neg (by omega), if_neg (by omega)]) hyo (by omega)) rfl rfl rfl) (fun r14 _ => ?_)
    refine L_v (opv_move rfl) rfl ?_
    refine L_v (opv_extract rfl rfl) rfl ?_
    refine L_v (opv_extract rfl rfl) rfl ?_
    refine L_v (opv_assign rfl) rfl ?_
    refine L_v (opv_assign rfl) rfl ?_
    refine L_nil ?_
    refine K_then ?_
    refine J_seq ?_
    refine J_region ?_
    refine L_v (opv_move rfl) rfl ?_
    refine L_x rfl (opx_call0 (LPass r hi y.s y.cur 1125899906842624 inv (by unfold tim; rw [if_neg (by omega), if_neg (by omega)]) (by omega) (by omega)) rfl rfl rfl) (fun x16 _ => ?_)
    refine L_v (opv_move rfl) rfl ?_
    refine L_v (opv_extract rfl rfl) rfl ?_
    refine L_v (opv_extract rfl rfl) rfl ?_
    refine L_v (opv_assign rfl) rfl ?_
    refine L_v (opv_assign rfl) rfl ?_
    refine L_nil ?_
    refine K_then ?_
    refine J_seq ?_
    refine J_seq ?_
    refine J_region ?_
    refine L_v (opv_move rfl) rfl ?_
    refine L_v ((opv_neq rfl rfl).bool_f (fun n => n rfl)) rfl ?_
    refine L_v (opv_move rfl) rfl ?_
    refine L_gon rfl rfl rfl ?_
    refine L_v (opv_move rfl) rfl ?_
    refine L_gon rfl rfl rfl ?_
    refine L_v ((opv_neq rfl rfl).bool_f (fun n => n rfl)) rfl ?_
    first
      | refine L_v (opv_pick_tt rfl rfl) rfl ?_
      | refine L_v (opv_pick_ff rfl rfl) rfl ?_
      | refine L_v (opv_pick rfl rfl rfl) rfl ?_
    refine L_v (opv_move rfl) rfl ?_
    refine L_gon rfl rfl rfl ?_
    refine L_v (opv_move rfl) rfl ?_
    refine L_gon rfl rfl rfl ?_
    first
      | refine L_v (opv_lenL rfl) rfl ?_
      | refine L_v (opv_lenS rfl) rfl ?_
    refine L_gon rfl rfl rfl ?_
    refine L_v (opv_move rfl) rfl ?_
    refine L_gon rfl rfl rfl ?_
    first
      | refine L_v (opv_lenL rfl) rfl ?_
      | refine L_v (opv_lenS rfl) rfl ?_
    refine L_gon rfl rfl rfl ?_
    refine L_v ((opv_neq rfl rfl).bool_f (fun n => n rfl)) rfl ?_
    first
      | refine L_v (opv_pick_tt rfl rfl) rfl ?_
      | refine L_v (opv_pick_ff rfl rfl) rfl ?_
      | refine L_v (opv_pick rfl rfl rfl) rfl ?_
    refine L_nil ?_
    refine K_then ?_
    refine J_cond_false rfl ?_
    refine J_skip ?_
    refine K_then ?_
    refine J_seq ?_
    refine J_seq ?_
    obtain ⟨⟨t1, _, t3⟩, _⟩ := inv.run (now := 1125899906842624) (by omega)
    have tc := t3.count
    have tl := congrArg List.length t1
    obtain ⟨A14, c14⟩ := r14
    refine J_imp (sep (GoneP r x16 (y.s.run 1125899906842624).out (QS.full { (y.s.run 1125899906842624) with out := [] }) 1125899906842624 (QS.fin { (y.s.run 1125899906842624) with out := [] })) (sep (Own 30 4 (.slice A14 (y.s.run 1125899906842624).out.length c14) (y.s.run 1125899906842624).out.length (flat (y.s.run 1125899906842624).out)) (sep (OutP p { (y.s.run 1125899906842624) with out := [] } 1024 1024 0 0 1125899906842624) (sep (old W) (F))))) ?_ ?_
    · exact Ent.take
    refine J_know (fun w hs => GoneP.some (p := r) (x := x16) (g := (y.s.run 1125899906842624).out) (q := QS.full { (y.s.run 1125899906842624) with out := [] }) (cur := 1125899906842624) (free := QS.fin { (y.s.run 1125899906842624) with out := [] }) hs) fun hx14 => ?_
    refine J_know (fun w hs => own_nonnil hs.drop) fun hA14 => ?_
    refine J_region ?_
    refine L_v (opv_assign rfl) rfl ?_
    refine L_nil ?_
    refine K_then ?_
    refine J_block ?_
    refine J_loop (X := Nat) (fun i => [(14, .slice A14 (y.s.run 1125899906842624).out.length c14), (16, .slice x16.1 (y.s.run 1125899906842624).out.length x16.2), (18, .int .i64 i)]) (fun i => (sep (GoneP r x16 (y.s.run 1125899906842624).out (QS.full { (y.s.run 1125899906842624) with out := [] }) 1125899906842624 (QS.fin { (y.s.run 1125899906842624) with out := [] })) (sep (Own 30 4 (.slice A14 (y.s.run 1125899906842624).out.length c14) (y.s.run 1125899906842624).out.length (flat (y.s.run 1125899906842624).out)) (sep (OutP p { (y.s.run 1125899906842624) with out := [] } 1024 1024 0 0 1125899906842624) (sep (old W) (F)))))) (fun i => i ≤ (y.s.run 1125899906842624).out.length) (fun i => (y.s.run 1125899906842624).out.length - i) (0) (Nat.zero_le _) ⟨rfl, rfl, rfl, trivial⟩ (Ent.refl _) (fun i hil => ?_)
    refine J_seq ?_
    refine J_seq ?_
    refine J_region ?_
    refine L_v (opv_move rfl) rfl ?_
    refine L_v (opv_move rfl) rfl ?_
    first
      | refine L_v (opv_lenL rfl) rfl ?_
      | refine L_v (opv_lenS rfl) rfl ?_
    refine L_v (opv_lss rfl rfl) rfl ?_
    refine L_nil ?_
    refine K_then ?_
    refine J_cond rfl (fun h4 => ?_) (fun h4 => ?_)
    · have hgl : i < (y.s.run 1125899906842624).out.length := by omega
      obtain ⟨z, hz⟩ : ∃ z, (y.s.run 1125899906842624).out[i]? = some z := ⟨_, List.getElem?_eq_getElem hgl⟩
      obtain ⟨bb, oo, rfl⟩ : ∃ bb oo, x16 = (some (ad bb oo), (y.s.run 1125899906842624).out.length) := by rcases hx14 with ⟨_, h⟩ | h; rw [h] at hgl; simp at hgl; exact h
      obtain ⟨b3, o3, rfl⟩ : ∃ b o, A14 = some (ad b o) := by rcases hA14 with ⟨_, _, h, _⟩ | h; omega; exact h
      refine J_skip ?_
      refine K_then ?_
      refine J_seq ?_
      refine J_block ?_
      refine J_seq ?_
      refine J_quiet Try.mixed (by kernel_rfl) ?_
      refine Q_v (opv_move rfl) rfl ?_
      refine Q_v (opv_move rfl) rfl ?_
      first
        | refine Q_v (opv_indexAddr rfl rfl (by omega)) rfl ?_
        | refine Q_v (opv_indexAddrA rfl rfl (by omega)) rfl ?_
      refine Q_v (opv_loadN (vs := [.int .i64 z.id, .string z.tx, .int .i64 z.b, .int .i64 z.e]) rfl rfl (fun j u hj => Rd.of_take (S := Own 30 4 (.slice (some (ad b3 o3)) (y.s.run 1125899906842624).out.length c14) (y.s.run 1125899906842624).out.length (flat (y.s.run 1125899906842624).out)) ((RdS.own (m := 4) (e := 30) (c := c14) enc_len (.inr ⟨b3, o3, rfl⟩)).rd b3 o3 rfl i z j u hz hj))) rfl ?_
      refine Q_v (opv_move rfl) rfl ?_
      refine Q_v (opv_move rfl) rfl ?_
      first
        | refine Q_v (opv_indexAddr rfl rfl (by omega)) rfl ?_
        | refine Q_v (opv_indexAddrA rfl rfl (by omega)) rfl ?_
      refine Q_v (opv_loadN (vs := [.int .i64 z.id, .string z.tx, .int .i64 z.b, .int .i64 z.e]) rfl rfl (fun j u hj => GoneP.reads (p := r) (x := (some (ad bb oo), (y.s.run 1125899906842624).out.length)) (g := (y.s.run 1125899906842624).out) (q := QS.full { (y.s.run 1125899906842624) with out := [] }) (cur := 1125899906842624) (free := QS.fin { (y.s.run 1125899906842624) with out := [] }) (i := i) (j := j) (y := z) rfl hz hj)) rfl ?_
      refine Q_v ((opv_neqF rfl rfl (by simp [Shape, CK.sh]) (by simp [Shape, CK.sh])).bool_f (fun n => n rfl)) rfl ?_
      refine QL_nil ?_
      refine K_then ?_
      refine J_cond_false rfl ?_
      refine J_skip ?_
      refine K_block ?_
      refine K_then ?_
      refine J_region ?_
      refine L_v (opv_move rfl) rfl ?_
      first
        | refine L_v (opv_add64 rfl rfl (by omega)) rfl ?_
        | refine L_v (opv_addS rfl rfl (by omega)) rfl ?_
        | refine L_v (opv_add rfl rfl) rfl ?_
      refine L_v (opv_assign rfl) rfl ?_
      refine L_nil ?_
      exact K_loop (i + 1) (by omega) (by omega) ⟨rfl, rfl, rfl, trivial⟩ (Ent.refl _)
    · refine J_exit ?_
      refine K_then_exit ?_
      refine K_then_exit ?_
      refine K_block_here ?_
      refine K_then ?_
      refine J_seq ?_
      refine J_region ?_
      refine L_x rfl (opx_call0 (qawake_spec) rfl rfl rfl) (fun _ _ => ?_)
      refine L_emp ?_
      refine L_v (opv_assign rfl) rfl ?_
      refine L_nil ?_
      refine K_then ?_
      refine J_ret ?_
      exact K_ret1 rfl rfl () trivial (rfl) (Ent.trans Ent.take (Ent.refl _))


theorem QueueLine_law (W : World) (A : Option Addr) (len c : Nat) (xs : List OpQ) (hi : Bool) (h : ArrIn W encOpQ 5 A len xs) (hl : len ≤ c) (hc : c ≤ maxLen) : FSpec Try.prog 14 #[.slice A len c, .bool hi] (old W) (fun _ : Unit => True) (fun _ => .bool true) (fun _ => old W) := by
  have e := h.1
  subst e
  have hn : xs.length ≤ 9223372036854775807 := by unfold maxLen at hc; omega
  cases hr : rightQ xs with
  | false => exact QL_no W A c xs hi (RdS.old h) hn hr
  | true => exact QL_yes W A c xs hi (RdS.old h) hn hr

end Go.Proofs.Ytpnpdliimidoaaa
namespace Go.Proofs.Ytpnpdliimidoaaa.queueLine
open Go.ChangeShapes Go.WideShapes Go.ChangeAt Go.RowKit Go.SLA
open Go.ChangeMaps (open_string shut_string)
set_option linter.unusedVariables false
theorem own : ownKnob Try.prog.godebug = none := by kernel_rfl
theorem laidOut : laidOutB Try.prog = true := by kernel_rfl
set_option maxRecDepth 100000 in
theorem lifted (os : Os) (started : os.Started) (H : Type) (enc : TypeId × Value → H) :
    ReturnsInHanded {} Try.checked os 14 .any (Rows.queueLineSpec.pre6 enc Try.prog Try.f14 Rows.queueLineRow.domain false) (Rows.queueLineSpec.post enc Try.prog Try.f14 false true false false) := by
  refine returnsInHanded_of_change_sized (C := Try.checked) own started (by kernel_rfl) Try.func14
    (ChangeSpec.witness6 (enc := enc) (C := Try.checked) false ⟨#[], #[.slice none 0 0, .bool false], []⟩ 8 (by kernel_rfl) (by kernel_rfl) (by kernel_rfl) (by kernel_rfl)) ?_
  intro W base args ds gs before hval0 hW hcnd hsz0 _
  have hsz : (DataW.weightsEach Try.prog (Try.f14.params.toList ++ Rows.queueLineSpec.plain.varTypes Try.prog) (ds ++ gs)).all (· ≤ reachBytes) = true := hsz0
  have hval : ∀ (j : Nat) t v, Try.f14.params[j]? = some t → args[j]? = some v → Value.okWide Try.prog W .any base t v := hval0
  have hW' := hW
  obtain ⟨p, q, hA0, hV, rfl, hfz, hnd⟩ := hW
  have hA : DataW.TrodAll enc Try.prog W 0 (fun _ => true) true Try.f14.params.toList args.toList ds p := hA0
  rw [Try.params14] at hA hval hsz
  obtain ⟨v0, vs0, d0, ds0, p0, q0, hargs, rfl, rfl, h0, r0⟩ := trodAll_cons hA
  obtain ⟨v1, vs1, d1, ds1, p1, q1, rfl, rfl, rfl, h1, r1⟩ := trodAll_cons r0
  obtain ⟨rfl, rfl, rfl⟩ := trodAll_nil r1
  obtain rfl : args = #[v0, v1] := by cases args; simp_all
  obtain ⟨rfl, rfl⟩ := trodVars_none hV
  have k0 := h0
  have lt0 : ∀ x ∈ p0, x.block < W.heap.size := by obtain ⟨m, hm⟩ := k0; exact DataW.trod_lt m _ _ _ hm
  obtain ⟨A0, len0, cap0, xs0, rfl, hl0, hc0, harr0, hok0⟩ := open_arr (D := 3) (ks := ksOpQ) (en := encOpQ) (ok := okOpQ) Try.underlying51 (by kernel_rfl) (by kernel_rfl) (by decide) (fun cs h => decOpQ cs h) (hval 0 51 v0 rfl rfl) h0
  have k1 := h1
  have lt1 : ∀ x ∈ p1, x.block < W.heap.size := by obtain ⟨m, hm⟩ := k1; exact DataW.trod_lt m _ _ _ hm
  obtain ⟨a1, rfl, rfl, rfl⟩ := open_bool Try.underlying4 (hval 1 4 v1 rfl rfl) h1
  clear hA0 hval0 hsz0 hsz
  refine (FSpec.law (QueueLine_law W A0 len0 cap0 xs0 a1 harr0 hl0 hc0)).mono fun e W' ⟨he, bel⟩ => ?_
  subst he
  exact ⟨_, rfl, _, _, _, [], _, [], hW', trodAll_mk1 (shut_bool Try.underlying4 _), (trodAll_cons_mk (Below.trod laidOut (by kernel_rfl) (of_decide_eq_true (by kernel_rfl)) k0 bel lt0) (trodAll_cons_mk (Below.trod laidOut (by kernel_rfl) (of_decide_eq_true (by kernel_rfl)) k1 bel lt1) trodAll_mk0)), rfl, bel.frame _, fun h => by cases h⟩
theorem over : Rows.queueLineRow.holds Try.pinned (OpenSpec.ofChange Rows.queueLineSpec) :=
  OpenClaim.holds_of_wide 14 Try.f14 rfl rfl rfl rfl rfl rfl rfl ⟨rfl, rfl, rfl, rfl, rfl⟩ rfl rfl rfl rfl rfl (by kernel_rfl) Try.func14 (by kernel_rfl)
    (of_decide_eq_true (by kernel_rfl)) (by unfold Func.isWrapper; first | (rw [if_pos (by decide +kernel)]; kernel_rfl) | (rw [if_neg (by decide +kernel)]; exact ⟨rfl, rfl⟩))
    (fun os started H enc _ => lifted os started H enc)
end Go.Proofs.Ytpnpdliimidoaaa.queueLine
namespace Go.Proofs.Ytpnpdliimidoaaa
theorem queueLine_holds : Rows.QueueLineSaid := queueLine.over
#print axioms queueLine_holds
end Go.Proofs.Ytpnpdliimidoaaa
namespace Go.Proofs.Ytpnpdliimidoaaa
open Go.SLA
end Go.Proofs.Ytpnpdliimidoaaa
