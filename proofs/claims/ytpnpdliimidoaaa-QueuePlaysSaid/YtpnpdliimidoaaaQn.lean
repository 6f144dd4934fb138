/- The law QueuePlays of the package pitotlaw19 holds for every input: what each call answers, what has gone when, and how many wait, or were not taken, call by call. No condition. -/
import Derived.Test.YtpnpdliimidoaaaQm
import Derived.Test.YtpnpdliimidoaaaH
namespace Go.Proofs.Ytpnpdliimidoaaa
open Go.SLA
set_option maxRecDepth 100000
set_option linter.unusedVariables false
set_option linter.unusedSimpArgs false
attribute [local irreducible] J L K QL Rg FSpec OpV OpX Rd Back
attribute [local irreducible] xs

/-- A wire, how many were not taken, its tick. -/
structure PQ where
  s : QS
  d0 : Int
  d1 : Int
  cur : Int
/-- An offer: what it answers, and what is then. -/
def offQ (m0 m1 : Int) (y : PQ) (now : Int) (hi : Bool) (w : Wt) : Int × PQ :=
  if tim y.cur now ≠ 0 then (tim y.cur now, y) else
  if 1518 < (w.tx.size : Int) then (11, y) else
  match y.s.run now, hi with
  | ⟨h, l, false, _, out⟩, _ => (0, ⟨⟨h, l, true, goes w now, out⟩, y.d0, y.d1, now⟩)
  | ⟨h, l, true, go, out⟩, true => if m0 ≤ (h.length : Int) then (22, ⟨⟨h, l, true, go, out⟩, y.d0 + 1, y.d1, now⟩) else (0, ⟨⟨h ++ [w], l, true, go, out⟩, y.d0, y.d1, now⟩)
  | ⟨h, l, true, go, out⟩, false => if m1 ≤ (l.length : Int) then (22, ⟨⟨h, l, true, go, out⟩, y.d0, y.d1 + 1, now⟩) else (0, ⟨⟨h, l ++ [w], true, go, out⟩, y.d0, y.d1, now⟩)
/-- Time goes on: what has gone, and what is then. -/
def pasQ (y : PQ) (now : Int) : List Sn × PQ :=
  if tim y.cur now ≠ 0 then ([], y) else ((y.s.run now).out, ⟨{ y.s.run now with out := [] }, y.d0, y.d1, now⟩)
/-- What is true of a wire behind k calls. -/
structure InvP (k : Nat) (y : PQ) : Prop where
  ok : y.s.ok
  n : y.s.out.length + y.s.wt ≤ k
  a : 0 ≤ y.d0 ∧ y.d0 ≤ k
  b : 0 ≤ y.d1 ∧ y.d1 ≤ k
theorem InvP.more {k : Nat} {y : PQ} (i : InvP k y) : InvP (k + 1) y := ⟨i.ok, by have := i.n; omega, by have := i.a; omega, by have := i.b; omega⟩
theorem InvP.run {k : Nat} {y : PQ} (i : InvP k y) (now : Int) : (y.s.run now).ok ∧ (y.s.run now).out.length + (y.s.run now).wt ≤ k := ⟨QS.ok_run i.ok, by rw [QS.run_wt]; exact i.n⟩
theorem pasQ_err {y : PQ} {now : Int} (h : tim y.cur now ≠ 0) : pasQ y now = ([], y) := if_pos h
theorem pasQ_ok {y : PQ} {now : Int} (h : tim y.cur now = 0) : pasQ y now = ((y.s.run now).out, ⟨{ y.s.run now with out := [] }, y.d0, y.d1, now⟩) := if_neg (fun n => n h)
theorem InvP.pass {k : Nat} {y : PQ} (i : InvP k y) (now : Int) : InvP (k + 1) (pasQ y now).2 ∧ (pasQ y now).1.length ≤ k := by
  by_cases h : tim y.cur now = 0
  · rw [pasQ_ok h]
    obtain ⟨h1, h2⟩ := i.run now
    have hw : QS.wt { y.s.run now with out := [] } = (y.s.run now).wt := rfl
    exact ⟨⟨QS.ok_out h1, by show 0 + QS.wt { y.s.run now with out := [] } ≤ k + 1; rw [hw]; omega, by have := i.a; dsimp only; omega, by have := i.b; dsimp only; omega⟩, by dsimp only; omega⟩
  · rw [pasQ_err h]
    exact ⟨i.more, Nat.zero_le _⟩
theorem offQ_err {m0 m1 : Int} {y : PQ} {now : Int} {hi : Bool} {w : Wt} (h : tim y.cur now ≠ 0) : offQ m0 m1 y now hi w = (tim y.cur now, y) := if_pos h
theorem offQ_long {m0 m1 : Int} {y : PQ} {now : Int} {hi : Bool} {w : Wt} (h : tim y.cur now = 0) (h2 : 1518 < (w.tx.size : Int)) : offQ m0 m1 y now hi w = (11, y) := by unfold offQ; rw [if_neg (fun n => n h), if_pos h2]
theorem offQ_go {m0 m1 : Int} {y : PQ} {now : Int} {hi : Bool} {w : Wt} (h : tim y.cur now = 0) (h2 : ¬ 1518 < (w.tx.size : Int)) {hh l : List Wt} {go : Sn} {out : List Sn} (hS : y.s.run now = ⟨hh, l, false, go, out⟩) : offQ m0 m1 y now hi w = (0, ⟨⟨hh, l, true, goes w now, out⟩, y.d0, y.d1, now⟩) := by unfold offQ; rw [if_neg (fun n => n h), if_neg h2, hS]
theorem offQ_t {m0 m1 : Int} {y : PQ} {now : Int} {w : Wt} (h : tim y.cur now = 0) (h2 : ¬ 1518 < (w.tx.size : Int)) {hh l : List Wt} {go : Sn} {out : List Sn} (hS : y.s.run now = ⟨hh, l, true, go, out⟩) : offQ m0 m1 y now true w = if m0 ≤ (hh.length : Int) then (22, ⟨⟨hh, l, true, go, out⟩, y.d0 + 1, y.d1, now⟩) else (0, ⟨⟨hh ++ [w], l, true, go, out⟩, y.d0, y.d1, now⟩) := by unfold offQ; rw [if_neg (fun n => n h), if_neg h2, hS]
theorem offQ_f {m0 m1 : Int} {y : PQ} {now : Int} {w : Wt} (h : tim y.cur now = 0) (h2 : ¬ 1518 < (w.tx.size : Int)) {hh l : List Wt} {go : Sn} {out : List Sn} (hS : y.s.run now = ⟨hh, l, true, go, out⟩) : offQ m0 m1 y now false w = if m1 ≤ (l.length : Int) then (22, ⟨⟨hh, l, true, go, out⟩, y.d0, y.d1 + 1, now⟩) else (0, ⟨⟨hh, l ++ [w], true, go, out⟩, y.d0, y.d1, now⟩) := by unfold offQ; rw [if_neg (fun n => n h), if_neg h2, hS]
theorem ok_go {hh l : List Wt} {b : Bool} {go : Sn} {out : List Sn} (h : QS.ok ⟨hh, l, b, go, out⟩) {now : Int} {w : Wt} (h0 : 0 ≤ now) : QS.ok ⟨hh, l, true, goes w now, out⟩ := ⟨h.1, by show 0 ≤ now + ((w.tx.size : Int) + 20); omega⟩
theorem ok_h {hh l : List Wt} {go : Sn} {out : List Sn} (h : QS.ok ⟨hh, l, true, go, out⟩) {w : Wt} (hw : ¬ 1518 < (w.tx.size : Int)) : QS.ok ⟨hh ++ [w], l, true, go, out⟩ := by
  refine ⟨fun v hv => ?_, h.2⟩
  rcases hv with hv | hv
  · rcases List.mem_append.1 hv with hv | hv
    · exact h.1 v (.inl hv)
    · rw [List.mem_singleton.1 hv]; omega
  · exact h.1 v (.inr hv)
theorem ok_l {hh l : List Wt} {go : Sn} {out : List Sn} (h : QS.ok ⟨hh, l, true, go, out⟩) {w : Wt} (hw : ¬ 1518 < (w.tx.size : Int)) : QS.ok ⟨hh, l ++ [w], true, go, out⟩ := by
  refine ⟨fun v hv => ?_, h.2⟩
  rcases hv with hv | hv
  · exact h.1 v (.inl hv)
  · rcases List.mem_append.1 hv with hv | hv
    · exact h.1 v (.inr hv)
    · rw [List.mem_singleton.1 hv]; omega
theorem wt_f (h l : List Wt) (go : Sn) (out : List Sn) : QS.wt ⟨h, l, false, go, out⟩ = h.length + l.length := rfl
theorem InvP.offer {k : Nat} {y : PQ} (i : InvP k y) (m0 m1 now : Int) (hi : Bool) (w : Wt) : InvP (k + 1) (offQ m0 m1 y now hi w).2 := by
  have ia := i.a
  have ib := i.b
  by_cases h : tim y.cur now = 0
  · by_cases h2 : 1518 < (w.tx.size : Int)
    · rw [offQ_long h h2]; exact i.more
    · obtain ⟨r1, r2⟩ := i.run now
      have h0 := tim_bd h
      cases hS : y.s.run now with
      | mk hh l b go out =>
        rw [hS] at r1 r2
        dsimp only at r2
        have w1 := QS.wt_true hh l go out
        have w0 := wt_f hh l go out
        cases b with
        | false =>
          rw [offQ_go h h2 hS]
          have w2 := QS.wt_true hh l (goes w now) out
          exact ⟨ok_go r1 h0.1, by dsimp only; omega, by dsimp only; omega, by dsimp only; omega⟩
        | true =>
          cases hi with
          | true =>
            rw [offQ_t h h2 hS]
            split
            · exact ⟨r1, by dsimp only; omega, by dsimp only; omega, by dsimp only; omega⟩
            · have w2 := QS.wt_true (hh ++ [w]) l go out
              rw [List.length_append, List.length_singleton] at w2
              exact ⟨ok_h r1 h2, by dsimp only; omega, by dsimp only; omega, by dsimp only; omega⟩
          | false =>
            rw [offQ_f h h2 hS]
            split
            · exact ⟨r1, by dsimp only; omega, by dsimp only; omega, by dsimp only; omega⟩
            · have w2 := QS.wt_true hh (l ++ [w]) go out
              rw [List.length_append, List.length_singleton] at w2
              exact ⟨ok_l r1 h2, by dsimp only; omega, by dsimp only; omega, by dsimp only; omega⟩
  · rw [offQ_err h]; exact i.more
theorem QPass_any (p : Nat) (y : PQ) (m0 m1 now : Int) (hok : y.s.ok) (hn : y.s.out.length + y.s.wt ≤ 1000000) : FSpec Try.prog 32 #[.pointer (some (ad p 0)), .int .i64 now] (OutP p y.s m0 m1 y.d0 y.d1 y.cur) (fun _ : Hd => True) (fun z => .tuple #[.slice z.1 (pasQ y now).1.length z.2, .int .i64 (tim y.cur now)]) (fun z => (sep (OutP p (pasQ y now).2.s m0 m1 (pasQ y now).2.d0 (pasQ y now).2.d1 (pasQ y now).2.cur) (Own 30 4 (.slice z.1 (pasQ y now).1.length z.2) (pasQ y now).1.length (flat (pasQ y now).1)))) := by
  by_cases h : tim y.cur now = 0
  · rw [pasQ_ok h, h]
    exact QPass_ok p y.s m0 m1 y.d0 y.d1 y.cur now h hok hn
  · rw [pasQ_err h]
    exact (QPass_err p y.s m0 m1 y.d0 y.d1 y.cur now h).conseq (Ent.refl _) fun _ _ => ⟨(none, 0), trivial, rfl, Ent.trans (Ent.of (emp_sep _).symm) (Ent.trans ((Own.nil 30 4).frame _) (Ent.of (sep_comm _ _)))⟩
theorem TPass_any (r : Nat) (y : PQ) (m0 m1 now : Int) (hok : y.s.ok) (hn : y.s.out.length + y.s.wt ≤ 1000000) : FSpec Try.prog 33 #[.pointer (some (ad r 0)), .int .i64 now] (RefP r y.s m0 m1 y.d0 y.d1 y.cur) (fun _ : Hd => True) (fun z => .tuple #[.slice z.1 (pasQ y now).1.length z.2, .int .i64 (tim y.cur now)]) (fun z => (sep (RefP r (pasQ y now).2.s m0 m1 (pasQ y now).2.d0 (pasQ y now).2.d1 (pasQ y now).2.cur) (Own 48 4 (.slice z.1 (pasQ y now).1.length z.2) (pasQ y now).1.length (flat (pasQ y now).1)))) := by
  by_cases h : tim y.cur now = 0
  · rw [pasQ_ok h, h]
    exact TPass_ok r y.s m0 m1 y.d0 y.d1 y.cur now h hok hn
  · rw [pasQ_err h]
    exact (TPass_err r y.s m0 m1 y.d0 y.d1 y.cur now h).conseq (Ent.refl _) fun _ _ => ⟨(none, 0), trivial, rfl, Ent.trans (Ent.of (emp_sep _).symm) (Ent.trans ((Own.nil 48 4).frame _) (Ent.of (sep_comm _ _)))⟩

theorem QOffer_any (p : Nat) (y : PQ) (m0 m1 now id : Int) (hi : Bool) (text : ByteArray) (hok : y.s.ok) (hn : y.s.out.length + y.s.wt ≤ 1000000) (h0 : -1000000000 ≤ y.d0 ∧ y.d0 ≤ 1000000000) (h1 : -1000000000 ≤ y.d1 ∧ y.d1 ≤ 1000000000) (hm0 : m0 ≤ 1000000) (hm1 : m1 ≤ 1000000) : FSpec Try.prog 35 #[.pointer (some (ad p 0)), .int .i64 now, .bool hi, .int .i64 id, .string text] (OutP p y.s m0 m1 y.d0 y.d1 y.cur) (fun _ : Unit => True) (fun _ => .int .i64 (offQ m0 m1 y now hi ⟨id, text⟩).1) (fun _ => OutP p (offQ m0 m1 y now hi ⟨id, text⟩).2.s m0 m1 (offQ m0 m1 y now hi ⟨id, text⟩).2.d0 (offQ m0 m1 y now hi ⟨id, text⟩).2.d1 (offQ m0 m1 y now hi ⟨id, text⟩).2.cur) := by
  by_cases h : tim y.cur now = 0
  · by_cases h2 : 1518 < (text.size : Int)
    · rw [offQ_long h h2]
      exact QOffer_long p y.s m0 m1 y.d0 y.d1 y.cur now id text hi h h2
    · cases hS : y.s.run now with
      | mk hh l b go out =>
        cases b with
        | false =>
          rw [offQ_go h h2 hS]
          cases hi with
          | true =>
            have := QOffer_go_true p y.s m0 m1 y.d0 y.d1 y.cur now id text h2 h hok hn (by rw [hS]) 
            rw [hS] at this
            exact this
          | false =>
            have := QOffer_go_false p y.s m0 m1 y.d0 y.d1 y.cur now id text h2 h hok hn (by rw [hS]) 
            rw [hS] at this
            exact this
        | true =>
          cases hi with
          | true =>
            rw [offQ_t h h2 hS]
            split
            · rename_i hf
              have := QOffer_full_true p y.s m0 m1 y.d0 y.d1 y.cur now id text h2 h hok hn (by rw [hS]) (by rw [hS]; exact hf) h0
              rw [hS] at this
              exact this
            · rename_i hf
              have := QOffer_wait_true p y.s m0 m1 y.d0 y.d1 y.cur now id text h2 h hok hn (by rw [hS]) (by rw [hS]; exact hf) hm0
              rw [hS] at this
              exact this
          | false =>
            rw [offQ_f h h2 hS]
            split
            · rename_i hf
              have := QOffer_full_false p y.s m0 m1 y.d0 y.d1 y.cur now id text h2 h hok hn (by rw [hS]) (by rw [hS]; exact hf) h1
              rw [hS] at this
              exact this
            · rename_i hf
              have := QOffer_wait_false p y.s m0 m1 y.d0 y.d1 y.cur now id text h2 h hok hn (by rw [hS]) (by rw [hS]; exact hf) hm1
              rw [hS] at this
              exact this
  · rw [offQ_err h]
    exact QOffer_err p y.s m0 m1 y.d0 y.d1 y.cur now id text hi h

theorem TOffer_any (r : Nat) (y : PQ) (m0 m1 now id : Int) (hi : Bool) (text : ByteArray) (hok : y.s.ok) (hn : y.s.out.length + y.s.wt ≤ 1000000) (h0 : -1000000000 ≤ y.d0 ∧ y.d0 ≤ 1000000000) (h1 : -1000000000 ≤ y.d1 ∧ y.d1 ≤ 1000000000) (hm0 : m0 ≤ 1000000) (hm1 : m1 ≤ 1000000) : FSpec Try.prog 36 #[.pointer (some (ad r 0)), .int .i64 now, .bool hi, .int .i64 id, .string text] (RefP r y.s m0 m1 y.d0 y.d1 y.cur) (fun _ : Unit => True) (fun _ => .int .i64 (offQ m0 m1 y now hi ⟨id, text⟩).1) (fun _ => RefP r (offQ m0 m1 y now hi ⟨id, text⟩).2.s m0 m1 (offQ m0 m1 y now hi ⟨id, text⟩).2.d0 (offQ m0 m1 y now hi ⟨id, text⟩).2.d1 (offQ m0 m1 y now hi ⟨id, text⟩).2.cur) := by
  by_cases h : tim y.cur now = 0
  · by_cases h2 : 1518 < (text.size : Int)
    · rw [offQ_long h h2]
      exact TOffer_long r y.s m0 m1 y.d0 y.d1 y.cur now id text hi h h2
    · cases hS : y.s.run now with
      | mk hh l b go out =>
        cases b with
        | false =>
          rw [offQ_go h h2 hS]
          cases hi with
          | true =>
            exact TOffer_go_true r y.s m0 m1 y.d0 y.d1 y.cur now id text h2 h hok hn hh l go out hS 
          | false =>
            exact TOffer_go_false r y.s m0 m1 y.d0 y.d1 y.cur now id text h2 h hok hn hh l go out hS 
        | true =>
          cases hi with
          | true =>
            rw [offQ_t h h2 hS]
            split
            · rename_i hf
              exact TOffer_full_true r y.s m0 m1 y.d0 y.d1 y.cur now id text h2 h hok hn hh l go out hS hf h0
            · rename_i hf
              exact TOffer_wait_true r y.s m0 m1 y.d0 y.d1 y.cur now id text h2 h hok hn hh l go out hS hf
          | false =>
            rw [offQ_f h h2 hS]
            split
            · rename_i hf
              exact TOffer_full_false r y.s m0 m1 y.d0 y.d1 y.cur now id text h2 h hok hn hh l go out hS hf h1
            · rename_i hf
              exact TOffer_wait_false r y.s m0 m1 y.d0 y.d1 y.cur now id text h2 h hok hn hh l go out hS hf
  · rw [offQ_err h]
    exact TOffer_err r y.s m0 m1 y.d0 y.d1 y.cur now id text hi h

theorem QNew_err (a c : Int) (h : ¬ (1 ≤ a ∧ a ≤ 1024 ∧ 1 ≤ c ∧ c ≤ 1024)) : FSpec Try.prog 30 #[.int .i64 a, .int .i64 c] (emp) (fun _ : Unit => True) (fun _ => .tuple #[.pointer none, .int .i64 1]) (fun _ => emp) := by
  refine FSpec.enter' Try.func30 rfl Try.ntmps30 rfl fun σ F => ?_
  refine J_emp ?_
  refine J_seq ?_
  refine J_region ?_
  refine L_v (opv_assign rfl) rfl ?_
  refine L_v (opv_assign rfl) rfl ?_
  refine L_nil ?_
  refine K_then ?_
  refine J_seq ?_
  refine J_seq ?_
  refine J_region ?_
  refine L_v (opv_move rfl) rfl ?_
  refine L_x rfl (opx_call0 (may_spec a) rfl rfl rfl) (fun _ _ => ?_)
  refine L_emp ?_
  first
    | refine L_v (opv_notD rfl) rfl ?_
    | refine L_v (opv_not rfl) rfl ?_
  refine L_v (opv_move rfl) rfl ?_
  refine L_gf rfl rfl (fun h1 => ?_) (fun h1 => ?_) (fun _ h => by cases h; rfl)
  · refine L_v (opv_move rfl) rfl ?_
    refine L_gf_on h1 rfl rfl ?_
    refine L_x rfl (opx_call0 (may_spec c) rfl rfl rfl) (fun _ _ => ?_)
    refine L_emp ?_
    refine L_gf_on h1 rfl rfl ?_
    first
      | refine L_v (opv_notD rfl) rfl ?_
      | refine L_v (opv_not rfl) rfl ?_
    refine L_v (opv_pick_f rfl h1 rfl) rfl ?_
    refine L_nil ?_
    refine K_then ?_
    refine J_cond rfl (fun h2 => ?_) (fun h2 => (by exfalso; omega))
    refine J_seq ?_
    refine J_region ?_
    refine L_v (opv_assign rfl) rfl ?_
    refine L_v (opv_assign rfl) rfl ?_
    refine L_nil ?_
    refine K_then ?_
    refine J_ret ?_
    refine K_then_ret ?_
    exact K_ret2 rfl rfl rfl () trivial rfl (Ent.of (emp_sep _).symm)
  · refine L_gf_off h1 rfl rfl ?_ (fun _ h => by cases h; rfl)
    refine L_gf_off h1 rfl rfl ?_ (fun _ h => by cases h; rfl)
    refine L_v (opv_pick_t rfl h1 rfl) rfl ?_
    refine L_nil ?_
    refine K_then ?_
    refine J_cond_true rfl ?_
    refine J_seq ?_
    refine J_region ?_
    refine L_v (opv_assign rfl) rfl ?_
    refine L_v (opv_assign rfl) rfl ?_
    refine L_nil ?_
    refine K_then ?_
    refine J_ret ?_
    refine K_then_ret ?_
    exact K_ret2 rfl rfl rfl () trivial rfl (Ent.of (emp_sep _).symm)

theorem QP_no (W : World) (A : Option Addr) (cp : Nat) (xs : List OpQ) (a c : Int) (hR : RdS (old W) encOpQ 5 A xs) (hn : xs.length ≤ 9223372036854775807) (hv : ¬ (1 ≤ a ∧ a ≤ 1024 ∧ 1 ≤ c ∧ c ≤ 1024)) : FSpec Try.prog 12 #[.int .i64 a, .int .i64 c, .slice A xs.length cp] (old W) (fun _ : Unit => True) (fun _ => .bool true) (fun _ => old W) := by
  refine FSpec.enter' Try.func12 rfl Try.ntmps12 rfl fun σ F => ?_
  refine J_seq ?_
  refine J_region ?_
  refine L_v (opv_assign rfl) rfl ?_
  refine L_nil ?_
  refine K_then ?_
  refine J_seq ?_
  refine J_region ?_
  refine L_v (opv_move rfl) rfl ?_
  refine L_v (opv_move rfl) rfl ?_
  refine L_x rfl (opx_call0 (QNew_err a c hv) rfl rfl rfl) (fun _ _ => ?_)
  refine L_emp ?_
  refine L_v (opv_move rfl) rfl ?_
  refine L_v (opv_extract rfl rfl) rfl ?_
  refine L_v (opv_extract rfl rfl) rfl ?_
  refine L_v (opv_assign rfl) rfl ?_
  refine L_v (opv_assign rfl) rfl ?_
  refine L_nil ?_
  refine K_then ?_
  refine J_seq ?_
  refine J_region ?_
  refine L_v (opv_move rfl) rfl ?_
  refine L_v (opv_move rfl) rfl ?_
  refine L_x rfl (opx_call0 (TNew_err a c hv) rfl rfl rfl) (fun _ _ => ?_)
  refine L_emp ?_
  refine L_v (opv_move rfl) rfl ?_
  refine L_v (opv_extract rfl rfl) rfl ?_
  refine L_v (opv_extract rfl rfl) rfl ?_
  refine L_v (opv_assign rfl) rfl ?_
  refine L_v (opv_assign rfl) rfl ?_
  refine L_nil ?_
  refine K_then ?_
  refine J_seq ?_
  refine J_seq ?_
  refine J_region ?_
  refine L_v (opv_move rfl) rfl ?_
  refine L_v (opv_move rfl) rfl ?_
  refine L_v ((opv_neq rfl rfl).bool_f (fun n => n rfl)) rfl ?_
  refine L_v (opv_move rfl) rfl ?_
  refine L_gon rfl rfl rfl ?_
  refine L_v (opv_move rfl) rfl ?_
  refine L_gon rfl rfl rfl ?_
  first
    | refine L_v (opv_eql rfl rfl) rfl ?_
    | refine L_v (opv_eqlS rfl rfl) rfl ?_
    | refine L_v (opv_eqlNil rfl rfl) rfl ?_
    | refine L_v (opv_eqlB rfl rfl) rfl ?_
  refine L_gon rfl rfl rfl ?_
  refine L_v (opv_move rfl) rfl ?_
  refine L_gon rfl rfl rfl ?_
  first
    | refine L_v (opv_eql rfl rfl) rfl ?_
    | refine L_v (opv_eqlS rfl rfl) rfl ?_
    | refine L_v (opv_eqlNil rfl rfl) rfl ?_
    | refine L_v (opv_eqlB rfl rfl) rfl ?_
  refine L_gon rfl rfl rfl ?_
  first
    | refine L_v (opv_neq rfl rfl) rfl ?_
    | refine L_v (opv_neqS rfl rfl) rfl ?_
    | refine L_v (opv_neqNil rfl rfl) rfl ?_
    | refine L_v (opv_neqB rfl rfl) rfl ?_
  first
    | refine L_v (opv_pick_tt rfl rfl) rfl ?_
    | refine L_v (opv_pick_ff rfl rfl) rfl ?_
    | refine L_v (opv_pick rfl rfl rfl) rfl ?_
  refine L_nil ?_
  refine K_then ?_
  refine J_cond_false rfl ?_
  refine J_skip ?_
  refine K_then ?_
  refine J_seq ?_
  refine J_seq ?_
  refine J_region ?_
  refine L_v (opv_move rfl) rfl ?_
  first
    | refine L_v (opv_eql rfl rfl) rfl ?_
    | refine L_v (opv_eqlS rfl rfl) rfl ?_
    | refine L_v (opv_eqlNil rfl rfl) rfl ?_
    | refine L_v (opv_eqlB rfl rfl) rfl ?_
  refine L_nil ?_
  refine K_then ?_
  refine J_cond_true rfl ?_
  refine J_seq ?_
  refine J_region ?_
  refine L_x rfl (opx_call0 (qawake_spec) rfl rfl rfl) (fun _ _ => ?_)
  refine L_emp ?_
  refine L_v (opv_assign rfl) rfl ?_
  refine L_nil ?_
  refine K_then ?_
  refine J_ret ?_
  refine K_then_ret ?_
  exact K_ret1 rfl rfl () trivial (rfl) (Ent.refl _)

structure PK where
  k : Nat
  y : PQ

set_option maxHeartbeats 800000 in
theorem QP_yes (W : World) (A : Option Addr) (cp : Nat) (xs : List OpQ) (a c : Int) (hR : RdS (old W) encOpQ 5 A xs) (hn : xs.length ≤ 9223372036854775807) (ha : 1 ≤ a ∧ a ≤ 1024) (hc : 1 ≤ c ∧ c ≤ 1024) : FSpec Try.prog 12 #[.int .i64 a, .int .i64 c, .slice A xs.length cp] (old W) (fun _ : Unit => True) (fun _ => .bool true) (fun _ => old W) := by
  refine FSpec.enter' Try.func12 rfl Try.ntmps12 rfl fun σ F => ?_
  refine J_seq ?_
  refine J_region ?_
  refine L_v (opv_assign rfl) rfl ?_
  refine L_nil ?_
  refine K_then ?_
  refine J_seq ?_
  refine J_region ?_
  refine L_v (opv_move rfl) rfl ?_
  refine L_v (opv_move rfl) rfl ?_
  refine L_x rfl (opx_call0 (QNew_ok a c ha hc) rfl rfl rfl) (fun p _ => ?_)
  refine L_v (opv_move rfl) rfl ?_
  refine L_v (opv_extract rfl rfl) rfl ?_
  refine L_v (opv_extract rfl rfl) rfl ?_
  refine L_v (opv_assign rfl) rfl ?_
  refine L_v (opv_assign rfl) rfl ?_
  refine L_nil ?_
  refine K_then ?_
  refine J_seq ?_
  refine J_region ?_
  refine L_v (opv_move rfl) rfl ?_
  refine L_v (opv_move rfl) rfl ?_
  refine L_x rfl (opx_call0 (TNew_ok a c ha hc) rfl rfl rfl) (fun r _ => ?_)
  refine L_v (opv_move rfl) rfl ?_
  refine L_v (opv_extract rfl rfl) rfl ?_
  refine L_v (opv_extract rfl rfl) rfl ?_
  refine L_v (opv_assign rfl) rfl ?_
  refine L_v (opv_assign rfl) rfl ?_
  refine L_nil ?_
  refine K_then ?_
  refine J_seq ?_
  refine J_seq ?_
  refine J_region ?_
  refine L_v (opv_move rfl) rfl ?_
  refine L_v (opv_move rfl) rfl ?_
  refine L_v ((opv_neq rfl rfl).bool_f (fun n => n rfl)) rfl ?_
  refine L_v (opv_move rfl) rfl ?_
  refine L_gon rfl rfl rfl ?_
  refine L_v (opv_move rfl) rfl ?_
  refine L_gon rfl rfl rfl ?_
  first
    | refine L_v (opv_eql rfl rfl) rfl ?_
    | refine L_v (opv_eqlS rfl rfl) rfl ?_
    | refine L_v (opv_eqlNil rfl rfl) rfl ?_
    | refine L_v (opv_eqlB rfl rfl) rfl ?_
  refine L_gon rfl rfl rfl ?_
  refine L_v (opv_move rfl) rfl ?_
  refine L_gon rfl rfl rfl ?_
  first
    | refine L_v (opv_eql rfl rfl) rfl ?_
    | refine L_v (opv_eqlS rfl rfl) rfl ?_
    | refine L_v (opv_eqlNil rfl rfl) rfl ?_
    | refine L_v (opv_eqlB rfl rfl) rfl ?_
  refine L_gon rfl rfl rfl ?_
  first
    | refine L_v (opv_neq rfl rfl) rfl ?_
    | refine L_v (opv_neqS rfl rfl) rfl ?_
    | refine L_v (opv_neqNil rfl rfl) rfl ?_
    | refine L_v (opv_neqB rfl rfl) rfl ?_
  first
    | refine L_v (opv_pick_tt rfl rfl) rfl ?_
    | refine L_v (opv_pick_ff rfl rfl) rfl ?_
    | refine L_v (opv_pick rfl rfl rfl) rfl ?_
  refine L_nil ?_
  refine K_then ?_
  refine J_cond_false rfl ?_
  refine J_skip ?_
  refine K_then ?_
  refine J_seq ?_
  refine J_seq ?_
  refine J_region ?_
  refine L_v (opv_move rfl) rfl ?_
  first
    | refine L_v (opv_eql rfl rfl) rfl ?_
    | refine L_v (opv_eqlS rfl rfl) rfl ?_
    | refine L_v (opv_eqlNil rfl rfl) rfl ?_
    | refine L_v (opv_eqlB rfl rfl) rfl ?_
  refine L_nil ?_
  refine K_then ?_
  refine J_cond_false rfl ?_
  refine J_skip ?_
  refine K_then ?_
  refine J_seq ?_
  refine J_seq ?_
  refine J_region ?_
  refine L_v (opv_assign rfl) rfl ?_
  refine L_nil ?_
  refine K_then ?_
  refine J_block ?_
  refine J_loop (X := PK) (fun z => [(0, .int .i64 a), (1, .int .i64 c), (2, .slice A xs.length cp), (7, .pointer (some (ad p 0))), (9, .pointer (some (ad r 0))), (11, .int .i64 z.k)]) (fun z => (sep (RefP r z.y.s a c z.y.d0 z.y.d1 z.y.cur) (sep (OutP p z.y.s a c z.y.d0 z.y.d1 z.y.cur) (sep (old W) (F))))) (fun z => z.k ≤ xs.length ∧ z.k ≤ 100 ∧ InvP z.k z.y) (fun z => xs.length - z.k) (⟨0, ⟨qs0, 0, 0, 0⟩⟩) ⟨Nat.zero_le _, Nat.zero_le _, ⟨qs0_ok, Nat.le_refl _, ⟨Int.le_refl _, Int.le_refl _⟩, ⟨Int.le_refl _, Int.le_refl _⟩⟩⟩ ⟨rfl, rfl, rfl, rfl, rfl, rfl, trivial⟩ Ent.take (fun z hz => ?_)
  obtain ⟨hk, hk2, hi⟩ := hz
  refine J_seq ?_
  refine J_seq ?_
  refine J_region ?_
  refine L_v (opv_move rfl) rfl ?_
  refine L_v (opv_move rfl) rfl ?_
  first
    | refine L_v (opv_lenL rfl) rfl ?_
    | refine L_v (opv_lenS rfl) rfl ?_
  refine L_v (opv_lss rfl rfl) rfl ?_
  refine L_v (opv_move rfl) rfl ?_
  refine L_gt rfl rfl (fun h1 => ?_) (fun h1 => ?_) (fun _ h => by cases h; rfl)
  · refine L_v (opv_move rfl) rfl ?_
    refine L_gt_on h1 rfl rfl ?_
    refine L_v (opv_lss rfl rfl) rfl ?_
    refine L_v (opv_pick_t rfl h1 rfl) rfl ?_
    refine L_nil ?_
    refine K_then ?_
    refine J_cond rfl (fun h2 => ?_) (fun h2 => ?_)
    · have hkl : z.k < xs.length := by omega
      obtain ⟨x, hx⟩ : ∃ x, xs[z.k]? = some x := ⟨_, List.getElem?_eq_getElem hkl⟩
      obtain ⟨b, o, rfl⟩ := hR.nonnil z.k hkl
      have i1 := hi.ok
      have i2 := hi.n
      have i3 := hi.a
      have i4 := hi.b
      have i5 := (hi.pass x.now).2
      refine J_skip ?_
      refine K_then ?_
      refine J_seq ?_
      refine J_block ?_
      refine J_seq ?_
      refine J_region ?_
      refine L_v (opv_move rfl) rfl ?_
      refine L_v (opv_move rfl) rfl ?_
      first
        | refine L_v (opv_indexAddr rfl rfl (by omega)) rfl ?_
        | refine L_v (opv_indexAddrA rfl rfl (by omega)) rfl ?_
      refine L_v (opv_loadN (vs := [.bool x.pass, .int .i64 x.now, .bool x.high, .int .i64 x.id, .string x.text]) rfl rfl (fun j u hj => Rd.of_take (S := old W) (hR.rd b o rfl z.k x j u hx hj))) rfl ?_
      refine L_x rfl (opx_alloc rfl) (fun b12 _ => ?_)
      refine L_x rfl (opx_store rfl rfl rfl (by simp [Value.oneCell'])) (fun _ _ => ?_)
      refine L_nil ?_
      refine K_then ?_
      refine J_seq ?_
      refine J_seq ?_
      refine J_region ?_
      first
        | refine L_v (opv_fieldAddr0 rfl) rfl ?_
        | refine L_v (opv_fieldAddr rfl) rfl ?_
      refine L_v (opv_load rfl (Rd.look rfl)) rfl ?_
      first
        | refine L_v (opv_lenL rfl) rfl ?_
        | refine L_v (opv_lenS rfl) rfl ?_
      refine L_v (opv_gtr rfl rfl) rfl ?_
      refine L_nil ?_
      refine K_then ?_
      refine J_cond rfl (fun h3 => ?_) (fun h3 => ?_)
      · refine J_seq ?_
        refine J_region ?_
        refine L_x rfl (opx_call0 (qawake_spec) rfl rfl rfl) (fun _ _ => ?_)
        refine L_emp ?_
        refine L_v (opv_assign rfl) rfl ?_
        refine L_nil ?_
        refine K_then ?_
        refine J_ret ?_
        refine K_then_ret ?_
        refine K_block_ret ?_
        refine K_then_ret ?_
        refine K_then_ret ?_
        refine K_block_ret ?_
        refine K_then_ret ?_
        exact K_ret1 rfl rfl () trivial (rfl) (Ent.trans Ent.take (Ent.refl _))
      · refine J_skip ?_
        refine K_then ?_
        refine J_cut (X := PQ) (fun y => [(0, .int .i64 a), (1, .int .i64 c), (2, .slice (some (ad b o)) xs.length cp), (7, .pointer (some (ad p 0))), (9, .pointer (some (ad r 0))), (11, .int .i64 z.k)]) (fun y => (sep (RefP r y.s a c y.d0 y.d1 y.cur) (sep (OutP p y.s a c y.d0 y.d1 y.cur) (sep (old W) (F))))) (fun y => InvP (z.k + 1) y) ?_ (fun y hy => ?_)
        · refine J_seq ?_
          refine J_region ?_
          first
            | refine L_v (opv_fieldAddr0 rfl) rfl ?_
            | refine L_v (opv_fieldAddr rfl) rfl ?_
          refine L_v (opv_load rfl (Rd.look rfl)) rfl ?_
          refine L_nil ?_
          refine K_then ?_
          refine J_cond_bool rfl (fun h4 => ?_) (fun h4 => ?_)
          · refine J_seq ?_
            refine J_region ?_
            refine L_v (opv_move rfl) rfl ?_
            first
              | refine L_v (opv_fieldAddr0 rfl) rfl ?_
              | refine L_v (opv_fieldAddr rfl) rfl ?_
            refine L_v (opv_load rfl (Rd.look rfl)) rfl ?_
            refine L_x rfl (opx_call0 (QPass_any p z.y a c x.now i1 (by omega)) rfl rfl rfl) (fun z7 _ => ?_)
            refine L_v (opv_move rfl) rfl ?_
            refine L_v (opv_extract rfl rfl) rfl ?_
            refine L_v (opv_extract rfl rfl) rfl ?_
            refine L_v (opv_assign rfl) rfl ?_
            refine L_v (opv_assign rfl) rfl ?_
            refine L_nil ?_
            refine K_then ?_
            refine J_seq ?_
            refine J_region ?_
            refine L_v (opv_move rfl) rfl ?_
            first
              | refine L_v (opv_fieldAddr0 rfl) rfl ?_
              | refine L_v (opv_fieldAddr rfl) rfl ?_
            refine L_v (opv_load rfl (Rd.look rfl)) rfl ?_
            refine L_x rfl (opx_call0 (TPass_any r z.y a c x.now i1 (by omega)) rfl rfl rfl) (fun z15 _ => ?_)
            refine L_v (opv_move rfl) rfl ?_
            refine L_v (opv_extract rfl rfl) rfl ?_
            refine L_v (opv_extract rfl rfl) rfl ?_
            refine L_v (opv_assign rfl) rfl ?_
            refine L_v (opv_assign rfl) rfl ?_
            refine L_nil ?_
            refine K_then ?_
            refine J_seq ?_
            refine J_region ?_
            refine L_v (opv_move rfl) rfl ?_
            refine L_v (opv_move rfl) rfl ?_
            refine L_v ((opv_neq rfl rfl).bool_f (fun n => n rfl)) rfl ?_
            refine L_v (opv_move rfl) rfl ?_
            refine L_gon rfl rfl rfl ?_
            refine L_v (opv_move rfl) rfl ?_
            refine L_gon rfl rfl rfl ?_
            refine L_v (opv_move rfl) rfl ?_
            refine L_gon rfl rfl rfl ?_
            refine L_x rfl (opx_call0 (Same_spec z7.1 z15.1 z7.2 z15.2 (pasQ z.y x.now).1 (by omega)) rfl rfl rfl) (fun _ _ => ?_)
            refine L_gon rfl rfl rfl ?_
            refine L_v (opv_not rfl) rfl ?_
            first
              | refine L_v (opv_pick_tt rfl rfl) rfl ?_
              | refine L_v (opv_pick_ff rfl rfl) rfl ?_
              | refine L_v (opv_pick rfl rfl rfl) rfl ?_
            refine L_nil ?_
            refine K_then ?_
            refine J_cond_false rfl ?_
            refine J_skip ?_
            exact K_cut (pasQ z.y x.now).2 (hi.pass x.now).1 ⟨rfl, rfl, rfl, rfl, rfl, rfl, trivial⟩ Ent.take
          · refine J_seq ?_
            refine J_steps (cel b12 [.bool x.pass, .int .i64 x.now, .bool x.high, .int .i64 x.id, .string x.text] 57) (cel b12 [.bool x.pass, .int .i64 x.now, .bool x.high, .int .i64 x.id, .string x.text] 57) [] Try.mixed ?_
            refine R_pure 0 rfl (by kernel_rfl) (by kernel_rfl) (by kernel_rfl) (by kernel_rfl) (.inr ⟨_, Take.eq (A := cel b12 [.bool x.pass, .int .i64 x.now, .bool x.high, .int .i64 x.id, .string x.text] 57)⟩) (opv_move rfl) rfl ?_
            first
              | refine R_pure 1 rfl (by kernel_rfl) (by kernel_rfl) (by kernel_rfl) (by kernel_rfl) (.inr ⟨_, Take.eq (A := cel b12 [.bool x.pass, .int .i64 x.now, .bool x.high, .int .i64 x.id, .string x.text] 57)⟩) (opv_fieldAddr0 rfl) rfl ?_
              | refine R_pure 1 rfl (by kernel_rfl) (by kernel_rfl) (by kernel_rfl) (by kernel_rfl) (.inr ⟨_, Take.eq (A := cel b12 [.bool x.pass, .int .i64 x.now, .bool x.high, .int .i64 x.id, .string x.text] 57)⟩) (opv_fieldAddr rfl) rfl ?_
            refine R_take 2 rfl (by kernel_rfl) (by kernel_rfl) (by kernel_rfl) (by kernel_rfl) (by kernel_rfl) (opv_load rfl (Rd.look rfl)) rfl ?_
            first
              | refine R_pure 3 rfl (by kernel_rfl) (by kernel_rfl) (by kernel_rfl) (by kernel_rfl) (.inr ⟨_, Take.eq (A := cel b12 [.bool x.pass, .int .i64 x.now, .bool x.high, .int .i64 x.id, .string x.text] 57)⟩) (opv_fieldAddr0 rfl) rfl ?_
              | refine R_pure 3 rfl (by kernel_rfl) (by kernel_rfl) (by kernel_rfl) (by kernel_rfl) (.inr ⟨_, Take.eq (A := cel b12 [.bool x.pass, .int .i64 x.now, .bool x.high, .int .i64 x.id, .string x.text] 57)⟩) (opv_fieldAddr rfl) rfl ?_
            refine R_take 4 rfl (by kernel_rfl) (by kernel_rfl) (by kernel_rfl) (by kernel_rfl) (by kernel_rfl) (opv_load rfl (Rd.look rfl)) rfl ?_
            first
              | refine R_pure 5 rfl (by kernel_rfl) (by kernel_rfl) (by kernel_rfl) (by kernel_rfl) (.inr ⟨_, Take.eq (A := cel b12 [.bool x.pass, .int .i64 x.now, .bool x.high, .int .i64 x.id, .string x.text] 57)⟩) (opv_fieldAddr0 rfl) rfl ?_
              | refine R_pure 5 rfl (by kernel_rfl) (by kernel_rfl) (by kernel_rfl) (by kernel_rfl) (.inr ⟨_, Take.eq (A := cel b12 [.bool x.pass, .int .i64 x.now, .bool x.high, .int .i64 x.id, .string x.text] 57)⟩) (opv_fieldAddr rfl) rfl ?_
            refine R_take 6 rfl (by kernel_rfl) (by kernel_rfl) (by kernel_rfl) (by kernel_rfl) (by kernel_rfl) (opv_load rfl (Rd.look rfl)) rfl ?_
            first
              | refine R_pure 7 rfl (by kernel_rfl) (by kernel_rfl) (by kernel_rfl) (by kernel_rfl) (.inr ⟨_, Take.eq (A := cel b12 [.bool x.pass, .int .i64 x.now, .bool x.high, .int .i64 x.id, .string x.text] 57)⟩) (opv_fieldAddr0 rfl) rfl ?_
              | refine R_pure 7 rfl (by kernel_rfl) (by kernel_rfl) (by kernel_rfl) (by kernel_rfl) (.inr ⟨_, Take.eq (A := cel b12 [.bool x.pass, .int .i64 x.now, .bool x.high, .int .i64 x.id, .string x.text] 57)⟩) (opv_fieldAddr rfl) rfl ?_
            refine R_take 8 rfl (by kernel_rfl) (by kernel_rfl) (by kernel_rfl) (by kernel_rfl) (by kernel_rfl) (opv_load rfl (Rd.look rfl)) rfl ?_
            refine R_pure 10 rfl (by kernel_rfl) (by kernel_rfl) (by kernel_rfl) (by kernel_rfl) (.inr ⟨_, Take.eq (A := cel b12 [.bool x.pass, .int .i64 x.now, .bool x.high, .int .i64 x.id, .string x.text] 57)⟩) (opv_move rfl) rfl ?_
            first
              | refine R_pure 11 rfl (by kernel_rfl) (by kernel_rfl) (by kernel_rfl) (by kernel_rfl) (.inr ⟨_, Take.eq (A := cel b12 [.bool x.pass, .int .i64 x.now, .bool x.high, .int .i64 x.id, .string x.text] 57)⟩) (opv_fieldAddr0 rfl) rfl ?_
              | refine R_pure 11 rfl (by kernel_rfl) (by kernel_rfl) (by kernel_rfl) (by kernel_rfl) (.inr ⟨_, Take.eq (A := cel b12 [.bool x.pass, .int .i64 x.now, .bool x.high, .int .i64 x.id, .string x.text] 57)⟩) (opv_fieldAddr rfl) rfl ?_
            refine R_take 12 rfl (by kernel_rfl) (by kernel_rfl) (by kernel_rfl) (by kernel_rfl) (by kernel_rfl) (opv_load rfl (Rd.look rfl)) rfl ?_
            first
              | refine R_pure 13 rfl (by kernel_rfl) (by kernel_rfl) (by kernel_rfl) (by kernel_rfl) (.inr ⟨_, Take.eq (A := cel b12 [.bool x.pass, .int .i64 x.now, .bool x.high, .int .i64 x.id, .string x.text] 57)⟩) (opv_fieldAddr0 rfl) rfl ?_
              | refine R_pure 13 rfl (by kernel_rfl) (by kernel_rfl) (by kernel_rfl) (by kernel_rfl) (.inr ⟨_, Take.eq (A := cel b12 [.bool x.pass, .int .i64 x.now, .bool x.high, .int .i64 x.id, .string x.text] 57)⟩) (opv_fieldAddr rfl) rfl ?_
            refine R_take 14 rfl (by kernel_rfl) (by kernel_rfl) (by kernel_rfl) (by kernel_rfl) (by kernel_rfl) (opv_load rfl (Rd.look rfl)) rfl ?_
            first
              | refine R_pure 15 rfl (by kernel_rfl) (by kernel_rfl) (by kernel_rfl) (by kernel_rfl) (.inr ⟨_, Take.eq (A := cel b12 [.bool x.pass, .int .i64 x.now, .bool x.high, .int .i64 x.id, .string x.text] 57)⟩) (opv_fieldAddr0 rfl) rfl ?_
              | refine R_pure 15 rfl (by kernel_rfl) (by kernel_rfl) (by kernel_rfl) (by kernel_rfl) (.inr ⟨_, Take.eq (A := cel b12 [.bool x.pass, .int .i64 x.now, .bool x.high, .int .i64 x.id, .string x.text] 57)⟩) (opv_fieldAddr rfl) rfl ?_
            refine R_take 16 rfl (by kernel_rfl) (by kernel_rfl) (by kernel_rfl) (by kernel_rfl) (by kernel_rfl) (opv_load rfl (Rd.look rfl)) rfl ?_
            first
              | refine R_pure 17 rfl (by kernel_rfl) (by kernel_rfl) (by kernel_rfl) (by kernel_rfl) (.inr ⟨_, Take.eq (A := cel b12 [.bool x.pass, .int .i64 x.now, .bool x.high, .int .i64 x.id, .string x.text] 57)⟩) (opv_fieldAddr0 rfl) rfl ?_
              | refine R_pure 17 rfl (by kernel_rfl) (by kernel_rfl) (by kernel_rfl) (by kernel_rfl) (.inr ⟨_, Take.eq (A := cel b12 [.bool x.pass, .int .i64 x.now, .bool x.high, .int .i64 x.id, .string x.text] 57)⟩) (opv_fieldAddr rfl) rfl ?_
            refine R_take 18 rfl (by kernel_rfl) (by kernel_rfl) (by kernel_rfl) (by kernel_rfl) (by kernel_rfl) (opv_load rfl (Rd.look rfl)) rfl ?_
            refine R_only 9 rfl rfl (by kernel_rfl) (opx_call0 (QOffer_any p z.y a c x.now x.id x.high x.text i1 (by omega) (by omega) (by omega) (by omega) (by omega)) rfl rfl rfl) (fun _ _ => ⟨_, Take.eq (A := cel b12 [.bool x.pass, .int .i64 x.now, .bool x.high, .int .i64 x.id, .string x.text] 57)⟩) (.inr fun _ _ => ⟨_, Take.eq (A := cel b12 [.bool x.pass, .int .i64 x.now, .bool x.high, .int .i64 x.id, .string x.text] 57)⟩) (fun _ _ => ?_)
            refine R_only 19 rfl rfl (by kernel_rfl) (opx_call0 (TOffer_any r z.y a c x.now x.id x.high x.text i1 (by omega) (by omega) (by omega) (by omega) (by omega)) rfl rfl rfl) (fun _ _ => ⟨_, Take.eq (A := cel b12 [.bool x.pass, .int .i64 x.now, .bool x.high, .int .i64 x.id, .string x.text] 57)⟩) (.inr fun _ _ => ⟨_, Take.eq (A := cel b12 [.bool x.pass, .int .i64 x.now, .bool x.high, .int .i64 x.id, .string x.text] 57)⟩) (fun _ _ => ?_)
            refine R_pure 20 rfl (by kernel_rfl) (by kernel_rfl) (by kernel_rfl) (by kernel_rfl) (.inr ⟨_, Take.eq (A := cel b12 [.bool x.pass, .int .i64 x.now, .bool x.high, .int .i64 x.id, .string x.text] 57)⟩) ((opv_neq rfl rfl).bool_f (fun n => n rfl)) rfl ?_
            refine R_done (by kernel_rfl) ?_
            refine K_then ?_
            refine J_cond_false rfl ?_
            refine J_skip ?_
            exact K_cut (offQ a c z.y x.now x.high ⟨x.id, x.text⟩).2 (hi.offer a c x.now x.high ⟨x.id, x.text⟩) ⟨rfl, rfl, rfl, rfl, rfl, rfl, trivial⟩ Ent.take
        · refine J_seq ?_
          refine J_region ?_
          refine L_v (opv_move rfl) rfl ?_
          refine L_x rfl (opx_call0 (QWaits_spec p y.s a c y.d0 y.d1 y.cur) rfl rfl rfl) (fun _ _ => ?_)
          refine L_v (opv_move rfl) rfl ?_
          refine L_v (opv_extract rfl rfl) rfl ?_
          refine L_v (opv_extract rfl rfl) rfl ?_
          refine L_v (opv_assign rfl) rfl ?_
          refine L_v (opv_assign rfl) rfl ?_
          refine L_nil ?_
          refine K_then ?_
          refine J_seq ?_
          refine J_region ?_
          refine L_v (opv_move rfl) rfl ?_
          refine L_x rfl (opx_call0 (QDropped_spec p y.s a c y.d0 y.d1 y.cur) rfl rfl rfl) (fun _ _ => ?_)
          refine L_v (opv_move rfl) rfl ?_
          refine L_v (opv_extract rfl rfl) rfl ?_
          refine L_v (opv_extract rfl rfl) rfl ?_
          refine L_v (opv_assign rfl) rfl ?_
          refine L_v (opv_assign rfl) rfl ?_
          refine L_nil ?_
          refine K_then ?_
          refine J_seq ?_
          refine J_imp (sep (RefP r y.s a c y.d0 y.d1 y.cur) (sep (OutP p y.s a c y.d0 y.d1 y.cur) (sep (old W) (F)))) ?_ ?_
          · exact Ent.take
          refine J_ex fun w => ?_
          refine J_eq _ (sep_assoc _ _ _) ?_
          refine J_lift fun hw => ?_
          refine J_eq (sep (cel r [.slice w.2.1.1 w.1.length w.2.1.2, .slice w.2.2.1.1 y.s.gl.length w.2.2.1.2, .slice w.2.2.2.1 y.s.out.length w.2.2.2.2, .int .i64 a, .int .i64 c, .int .i64 y.cur, .int .i64 y.d0, .int .i64 y.d1] 71) (sep (Own 93 3 (.slice w.2.1.1 w.1.length w.2.1.2) w.1.length (flatT w.1)) (sep (Own 48 4 (.slice w.2.2.1.1 y.s.gl.length w.2.2.1.2) y.s.gl.length (flat y.s.gl)) (sep (Own 48 4 (.slice w.2.2.2.1 y.s.out.length w.2.2.2.2) y.s.out.length (flat y.s.out)) (sep (OutP p y.s a c y.d0 y.d1 y.cur) (sep (old W) (F))))))) (by simp only [sep_assoc]) ?_
          have hlen := len_hl w.1
          rw [hw.1, hw.2] at hlen
          have hyn := hy.n
          have hya := hy.a
          have hyb := hy.b
          have hwt : y.s.h.length + y.s.l.length ≤ y.s.wt := Nat.le_add_right _ _
          refine J_region ?_
          refine L_v (opv_move rfl) rfl ?_
          refine L_v (opv_move rfl) rfl ?_
          refine L_x rfl (opx_call0 (TCount_true r (.slice w.2.2.1.1 y.s.gl.length w.2.2.1.2) (.slice w.2.2.2.1 y.s.out.length w.2.2.2.2) (.int .i64 a) (.int .i64 c) (.int .i64 y.cur) (.int .i64 y.d0) (.int .i64 y.d1) w.1 w.2.1.1 w.2.1.2 (by omega)) rfl rfl rfl) (fun _ _ => ?_)
          refine L_eq _ (sep_assoc _ _ _) ?_
          refine L_v ((opv_neq rfl rfl).bool_f (fun n => n (by rw [hw.1]))) rfl ?_
          refine L_v (opv_move rfl) rfl ?_
          refine L_gon rfl rfl rfl ?_
          refine L_v (opv_move rfl) rfl ?_
          refine L_gon rfl rfl rfl ?_
          refine L_v (opv_move rfl) rfl ?_
          refine L_gon rfl rfl rfl ?_
          refine L_x rfl (opx_call0 (TCount_false r (.slice w.2.2.1.1 y.s.gl.length w.2.2.1.2) (.slice w.2.2.2.1 y.s.out.length w.2.2.2.2) (.int .i64 a) (.int .i64 c) (.int .i64 y.cur) (.int .i64 y.d0) (.int .i64 y.d1) w.1 w.2.1.1 w.2.1.2 (by omega)) rfl rfl rfl) (fun _ _ => ?_)
          refine L_eq _ (sep_assoc _ _ _) ?_
          refine L_gon rfl rfl rfl ?_
          refine L_v ((opv_neq rfl rfl).bool_f (fun n => n (by rw [hw.2]))) rfl ?_
          first
            | refine L_v (opv_pick_tt rfl rfl) rfl ?_
            | refine L_v (opv_pick_ff rfl rfl) rfl ?_
            | refine L_v (opv_pick rfl rfl rfl) rfl ?_
          refine L_v (opv_move rfl) rfl ?_
          refine L_gon rfl rfl rfl ?_
          refine L_v (opv_move rfl) rfl ?_
          refine L_gon rfl rfl rfl ?_
          refine L_v (opv_move rfl) rfl ?_
          refine L_gon rfl rfl rfl ?_
          refine L_v (opv_nilCheck rfl) rfl ?_
          refine L_gon rfl rfl rfl ?_
          first
            | refine L_v (opv_fieldAddr0 rfl) rfl ?_
            | refine L_v (opv_fieldAddr rfl) rfl ?_
          refine L_gon rfl rfl rfl ?_
          refine L_v (opv_load rfl (Rd.look rfl)) rfl ?_
          refine L_gon rfl rfl rfl ?_
          refine L_v ((opv_neq rfl rfl).bool_f (fun n => n rfl)) rfl ?_
          first
            | refine L_v (opv_pick_tt rfl rfl) rfl ?_
            | refine L_v (opv_pick_ff rfl rfl) rfl ?_
            | refine L_v (opv_pick rfl rfl rfl) rfl ?_
          refine L_v (opv_move rfl) rfl ?_
          refine L_gon rfl rfl rfl ?_
          refine L_v (opv_move rfl) rfl ?_
          refine L_gon rfl rfl rfl ?_
          refine L_v (opv_move rfl) rfl ?_
          refine L_gon rfl rfl rfl ?_
          refine L_v (opv_nilCheck rfl) rfl ?_
          refine L_gon rfl rfl rfl ?_
          first
            | refine L_v (opv_fieldAddr0 rfl) rfl ?_
            | refine L_v (opv_fieldAddr rfl) rfl ?_
          refine L_gon rfl rfl rfl ?_
          refine L_v (opv_load rfl (Rd.look rfl)) rfl ?_
          refine L_gon rfl rfl rfl ?_
          refine L_v ((opv_neq rfl rfl).bool_f (fun n => n rfl)) rfl ?_
          first
            | refine L_v (opv_pick_tt rfl rfl) rfl ?_
            | refine L_v (opv_pick_ff rfl rfl) rfl ?_
            | refine L_v (opv_pick rfl rfl rfl) rfl ?_
          refine L_nil ?_
          refine K_then ?_
          refine J_cond_false rfl ?_
          refine J_skip ?_
          refine K_block ?_
          refine K_then ?_
          refine J_region ?_
          refine L_v (opv_move rfl) rfl ?_
          first
            | refine L_v (opv_add64 rfl rfl (by omega)) rfl ?_
            | refine L_v (opv_addS rfl rfl (by omega)) rfl ?_
            | refine L_v (opv_add rfl rfl) rfl ?_
          refine L_v (opv_assign rfl) rfl ?_
          refine L_nil ?_
          exact K_loop (⟨z.k + 1, y⟩) ⟨by show z.k + 1 ≤ _; omega, by show z.k + 1 ≤ _; omega, hy⟩ (by show _ - (z.k + 1) < _; omega) ⟨rfl, rfl, rfl, rfl, rfl, rfl, trivial⟩ (Ent.trans (Ent.take (Q := (sep (cel r [.slice w.2.1.1 w.1.length w.2.1.2, .slice w.2.2.1.1 y.s.gl.length w.2.2.1.2, .slice w.2.2.2.1 y.s.out.length w.2.2.2.2, .int .i64 a, .int .i64 c, .int .i64 y.cur, .int .i64 y.d0, .int .i64 y.d1] 71) (sep (Own 93 3 (.slice w.2.1.1 w.1.length w.2.1.2) w.1.length (flatT w.1)) (sep (Own 48 4 (.slice w.2.2.1.1 y.s.gl.length w.2.2.1.2) y.s.gl.length (flat y.s.gl)) (sep (Own 48 4 (.slice w.2.2.2.1 y.s.out.length w.2.2.2.2) y.s.out.length (flat y.s.out)) (sep (OutP p y.s a c y.d0 y.d1 y.cur) (sep (old W) (F))))))))) (RefP.fold w.1 w.2.1 w.2.2.1 w.2.2.2 hw.1 hw.2))
    · refine J_exit ?_
      refine K_then_exit ?_
      refine K_then_exit ?_
      refine K_block_here ?_
      refine K_then ?_
      refine J_seq ?_
      refine J_region ?_
      refine L_x rfl (opx_call0 (qawake_spec) rfl rfl rfl) (fun _ _ => ?_)
      refine L_emp ?_
      refine L_v (opv_assign rfl) rfl ?_
      refine L_nil ?_
      refine K_then ?_
      refine J_ret ?_
      exact K_ret1 rfl rfl () trivial (rfl) (Ent.trans Ent.take (Ent.refl _))
  · refine L_gt_off h1 rfl rfl ?_ (fun _ h => by cases h; rfl)
    refine L_v (opv_pick_f rfl h1 rfl) rfl ?_
    refine L_nil ?_
    refine K_then ?_
    refine J_cond_false rfl ?_
    refine J_exit ?_
    refine K_then_exit ?_
    refine K_then_exit ?_
    refine K_block_here ?_
    refine K_then ?_
    refine J_seq ?_
    refine J_region ?_
    refine L_x rfl (opx_call0 (qawake_spec) rfl rfl rfl) (fun _ _ => ?_)
    refine L_emp ?_
    refine L_v (opv_assign rfl) rfl ?_
    refine L_nil ?_
    refine K_then ?_
    refine J_ret ?_
    exact K_ret1 rfl rfl () trivial (rfl) (Ent.trans Ent.take (Ent.refl _))


theorem QueuePlays_law (W : World) (a c : Int) (A : Option Addr) (len cp : Nat) (xs : List OpQ) (h : ArrIn W encOpQ 5 A len xs) (hl : len ≤ cp) (hc : cp ≤ maxLen) : FSpec Try.prog 12 #[.int .i64 a, .int .i64 c, .slice A len cp] (old W) (fun _ : Unit => True) (fun _ => .bool true) (fun _ => old W) := by
  have e := h.1
  subst e
  have hn : xs.length ≤ 9223372036854775807 := by unfold maxLen at hc; omega
  by_cases hv : 1 ≤ a ∧ a ≤ 1024 ∧ 1 ≤ c ∧ c ≤ 1024
  · exact QP_yes W A cp xs a c (RdS.old h) hn ⟨hv.1, hv.2.1⟩ hv.2.2
  · exact QP_no W A cp xs a c (RdS.old h) hn hv

end Go.Proofs.Ytpnpdliimidoaaa
namespace Go.Proofs.Ytpnpdliimidoaaa.queuePlays
open Go.ChangeShapes Go.WideShapes Go.ChangeAt Go.RowKit Go.SLA
open Go.ChangeMaps (open_string shut_string)
set_option linter.unusedVariables false
theorem own : ownKnob Try.prog.godebug = none := by kernel_rfl
theorem laidOut : laidOutB Try.prog = true := by kernel_rfl
set_option maxRecDepth 100000 in
theorem lifted (os : Os) (started : os.Started) (H : Type) (enc : TypeId × Value → H) :
    ReturnsInHanded {} Try.checked os 12 .any (Rows.queuePlaysSpec.pre6 enc Try.prog Try.f12 Rows.queuePlaysRow.domain false) (Rows.queuePlaysSpec.post enc Try.prog Try.f12 false true false false) := by
  refine returnsInHanded_of_change_sized (C := Try.checked) own started (by kernel_rfl) Try.func12
    (ChangeSpec.witness6 (enc := enc) (C := Try.checked) false ⟨#[], #[.int .i64 0, .int .i64 0, .slice none 0 0], []⟩ 8 (by kernel_rfl) (by kernel_rfl) (by kernel_rfl) (by kernel_rfl)) ?_
  intro W base args ds gs before hval0 hW hcnd hsz0 _
  have hsz : (DataW.weightsEach Try.prog (Try.f12.params.toList ++ Rows.queuePlaysSpec.plain.varTypes Try.prog) (ds ++ gs)).all (· ≤ reachBytes) = true := hsz0
  have hval : ∀ (j : Nat) t v, Try.f12.params[j]? = some t → args[j]? = some v → Value.okWide Try.prog W .any base t v := hval0
  have hW' := hW
  obtain ⟨p, q, hA0, hV, rfl, hfz, hnd⟩ := hW
  have hA : DataW.TrodAll enc Try.prog W 0 (fun _ => true) true Try.f12.params.toList args.toList ds p := hA0
  rw [Try.params12] at hA hval hsz
  obtain ⟨v0, vs0, d0, ds0, p0, q0, hargs, rfl, rfl, h0, r0⟩ := trodAll_cons hA
  obtain ⟨v1, vs1, d1, ds1, p1, q1, rfl, rfl, rfl, h1, r1⟩ := trodAll_cons r0
  obtain ⟨v2, vs2, d2, ds2, p2, q2, rfl, rfl, rfl, h2, r2⟩ := trodAll_cons r1
  obtain ⟨rfl, rfl, rfl⟩ := trodAll_nil r2
  obtain rfl : args = #[v0, v1, v2] := by cases args; simp_all
  obtain ⟨rfl, rfl⟩ := trodVars_none hV
  have k0 := h0
  have lt0 : ∀ x ∈ p0, x.block < W.heap.size := by obtain ⟨m, hm⟩ := k0; exact DataW.trod_lt m _ _ _ hm
  obtain ⟨a0, rfl, rfl, rfl, w0⟩ := open_int Try.underlying3 (hval 0 3 v0 rfl rfl) h0
  have k1 := h1
  have lt1 : ∀ x ∈ p1, x.block < W.heap.size := by obtain ⟨m, hm⟩ := k1; exact DataW.trod_lt m _ _ _ hm
  obtain ⟨a1, rfl, rfl, rfl, w1⟩ := open_int Try.underlying3 (hval 1 3 v1 rfl rfl) h1
  have k2 := h2
  have lt2 : ∀ x ∈ p2, x.block < W.heap.size := by obtain ⟨m, hm⟩ := k2; exact DataW.trod_lt m _ _ _ hm
  obtain ⟨A2, len2, cap2, xs2, rfl, hl2, hc2, harr2, hok2⟩ := open_arr (D := 3) (ks := ksOpQ) (en := encOpQ) (ok := okOpQ) Try.underlying51 (by kernel_rfl) (by kernel_rfl) (by decide) (fun cs h => decOpQ cs h) (hval 2 51 v2 rfl rfl) h2
  clear hA0 hval0 hsz0 hsz
  refine (FSpec.law (QueuePlays_law W a0 a1 A2 len2 cap2 xs2 harr2 hl2 hc2)).mono fun e W' ⟨he, bel⟩ => ?_
  subst he
  exact ⟨_, rfl, _, _, _, [], _, [], hW', trodAll_mk1 (shut_bool Try.underlying4 _), (trodAll_cons_mk (Below.trod laidOut (by kernel_rfl) (of_decide_eq_true (by kernel_rfl)) k0 bel lt0) (trodAll_cons_mk (Below.trod laidOut (by kernel_rfl) (of_decide_eq_true (by kernel_rfl)) k1 bel lt1) (trodAll_cons_mk (Below.trod laidOut (by kernel_rfl) (of_decide_eq_true (by kernel_rfl)) k2 bel lt2) trodAll_mk0))), rfl, bel.frame _, fun h => by cases h⟩
theorem over : Rows.queuePlaysRow.holds Try.pinned (OpenSpec.ofChange Rows.queuePlaysSpec) :=
  OpenClaim.holds_of_wide 12 Try.f12 rfl rfl rfl rfl rfl rfl rfl ⟨rfl, rfl, rfl, rfl, rfl⟩ rfl rfl rfl rfl rfl (by kernel_rfl) Try.func12 (by kernel_rfl)
    (of_decide_eq_true (by kernel_rfl)) (by unfold Func.isWrapper; first | (rw [if_pos (by decide +kernel)]; kernel_rfl) | (rw [if_neg (by decide +kernel)]; exact ⟨rfl, rfl⟩))
    (fun os started H enc _ => lifted os started H enc)
end Go.Proofs.Ytpnpdliimidoaaa.queuePlays
namespace Go.Proofs.Ytpnpdliimidoaaa
theorem queuePlays_holds : Rows.QueuePlaysSaid := queuePlays.over
#print axioms queuePlays_holds
end Go.Proofs.Ytpnpdliimidoaaa
namespace Go.Proofs.Ytpnpdliimidoaaa
open Go.SLA
end Go.Proofs.Ytpnpdliimidoaaa
