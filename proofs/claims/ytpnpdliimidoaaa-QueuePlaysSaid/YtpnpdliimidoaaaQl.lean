/- Contracts of functions of the reference of chapter 19, each proved by a walk over its code; they are used by the texts that import this one. -/
import Derived.Test.YtpnpdliimidoaaaQk
import Derived.Test.YtpnpdliimidoaaaZ
import Derived.Test.YtpnpdliimidoaaaH
namespace Go.Proofs.Ytpnpdliimidoaaa
open Go.SLA
set_option maxRecDepth 100000
set_option linter.unusedVariables false
set_option linter.unusedSimpArgs false
attribute [local irreducible] J L K QL Rg FSpec OpV OpX Rd Back
attribute [local irreducible] xs

theorem own_cap {σ w : World} {P : HProp} {e m len c : Nat} {A : Option Addr} {l : List Value} (h : Sat σ w (sep (Own e m (.slice A len c) len l) (P))) : len ≤ c ∧ c ≤ maxLen := by
  obtain ⟨A', cap, h1, h2, h3, _⟩ := own_val h
  simp only [Value.slice.injEq] at h1
  obtain ⟨_, _, rfl⟩ := h1
  exact ⟨h2, h3⟩
/-- Nothing is going. -/
theorem RefP.fold0 {r : Nat} {h l : List Wt} {go : Sn} {out : List Sn} {m0 m1 d0 d1 now : Int} {F : HProp} (q : List Tx) (a o : Hd) (hh : hs q = h) (hl : ls q = l) : Ent (sep (cel r [.slice a.1 q.length a.2, .slice none 0 0, .slice o.1 out.length o.2, .int .i64 m0, .int .i64 m1, .int .i64 now, .int .i64 d0, .int .i64 d1] 71) (sep (Own 93 3 (.slice a.1 q.length a.2) q.length (flatT q)) (sep (Own 48 4 (.slice o.1 out.length o.2) out.length (flat out)) (F)))) (sep (RefP r ⟨h, l, false, go, out⟩ m0 m1 d0 d1 now) (F)) := by
  refine Ent.trans (Ent.frame_left (Ent.frame_left ?_ _) _) (RefP.fold (s := ⟨h, l, false, go, out⟩) q a (none, 0) o hh hl)
  exact Ent.trans (Ent.of (emp_sep _).symm) ((Own.nil 48 4).frame _)
/-- One has just begun. -/
theorem RefP.fold1 {r b : Nat} {h l : List Wt} {go : Sn} {out : List Sn} {m0 m1 d0 d1 now : Int} {F : HProp} (q : List Tx) (a o : Hd) (hh : hs q = h) (hl : ls q = l) : Ent (sep (cel r [.slice a.1 q.length a.2, .slice (some (ad b 0)) 1 1, .slice o.1 out.length o.2, .int .i64 m0, .int .i64 m1, .int .i64 now, .int .i64 d0, .int .i64 d1] 71) (sep (Own 93 3 (.slice a.1 q.length a.2) q.length (flatT q)) (sep (cel b [.int .i64 go.id, .string go.tx, .int .i64 go.b, .int .i64 go.e] 48) (sep (Own 48 4 (.slice o.1 out.length o.2) out.length (flat out)) (F))))) (sep (RefP r ⟨h, l, true, go, out⟩ m0 m1 d0 d1 now) (F)) := by
  refine Ent.trans (Ent.frame_left (Ent.frame_left (Ent.frame ?_ _) _) _) (RefP.fold (s := ⟨h, l, true, go, out⟩) q a (some (ad b 0), 1) o hh hl)
  exact Own.lit (e := 48) (m := 4) (len := 1) rfl (by unfold maxLen; decide)
theorem QS.step_sum (s : QS) (h : s.b = true) : s.step.out.length + s.step.wt ≤ s.out.length + s.wt := by
  have h1 := QS.step_out s
  have h2 := QS.step_wt h
  omega
theorem Bst.some {q : List Tx} {i : Nat} {v : Int} (h : Bst q i v) : (i = 0 ∧ v = -1) ∨ ∃ k : Nat, k < i ∧ v = k := by
  rcases h with h | ⟨k, h1, h2, _⟩
  · exact .inl h
  · exact .inr ⟨k, h1, h2⟩
theorem Bst.at {q : List Tx} {v : Int} (h : Bst q q.length v) : (q = [] ∧ v = -1) ∨ ∃ (k : Nat) (t : Tx), v = k ∧ q[k]? = Option.some t := by
  rcases h with ⟨h1, h2⟩ | ⟨k, h1, h2, t, h3, _⟩
  · exact .inl ⟨List.eq_nil_of_length_eq_zero h1, h2⟩
  · exact .inr ⟨k, t, h2, h3⟩
/-- The next round of the loop that looks for the one that begins next. -/
theorem Bst.cases {q : List Tx} {i : Nat} {v : Int} (h : Bst q i v) (hi : i < q.length) : ∃ u, q[i]? = Option.some u ∧ ((v = -1 ∧ i = 0) ∨ ∃ (k : Nat) (t : Tx), v = k ∧ q[k]? = Option.some t ∧ ((u.hi = false) ∨ (u.hi = true ∧ t.hi = true) ∨ (u.hi = true ∧ t.hi = false))) := by
  refine ⟨_, List.getElem?_eq_getElem hi, ?_⟩
  rcases h with ⟨h1, h2⟩ | ⟨k, h1, h2, t, h3, _⟩
  · exact .inl ⟨h2, h1⟩
  · refine .inr ⟨k, t, h2, h3, ?_⟩
    cases q[i].hi <;> cases t.hi <;> simp
theorem flatT_take_get {q : List Tx} {k j : Nat} {u : Value} (h : (flatT (q.take k))[j]? = some u) : (flatT q)[j]? = some u := by
  rw [flatT_take, List.getElem?_take] at h
  split at h
  · exact h
  · cases h
theorem flatT_drop_get {q : List Tx} {k j : Nat} {u : Value} (h : (flatT (q.drop k))[j]? = some u) : (flatT q)[k * 3 + j]? = some u := by
  rwa [flatT_drop, List.getElem?_drop] at h
/-- What stands behind an element of an own array: the slice as the model cuts it. -/
theorem Src.rest {P R : HProp} {e cap k n : Nat} {b o : Nat} {q : List Tx} [h : Take P (Own e 3 (.slice (some (ad b o)) q.length cap) q.length (flatT q)) R] (hn : n = q.length - (k + 1)) (hcap : q.length ≤ cap) : SLA.Src P (cutV (some (ad b o)) (k + 1) q.length cap 3) n (flatT (q.drop (k + 1))) := by
  rw [cutV_at, ← hn]
  by_cases hc : cap = k + 1
  · rw [if_pos hc, List.drop_of_length_le (by omega), show n = 0 by omega]
    exact Src.none
  · rw [if_neg hc]
    exact Src.post (h := h) fun j u hj => flatT_drop_get hj


theorem len_hl (q : List Tx) : q.length = (hs q).length + (ls q).length := by
  induction q with
  | nil => rfl
  | cons x q ih =>
    have e1 : hs (x :: q) = hs [x] ++ hs q := hs_app [x] q
    have e2 : ls (x :: q) = ls [x] ++ ls q := ls_app [x] q
    rw [e1, e2, List.length_append, List.length_append, List.length_cons, ih]
    have e3 : (hs [x]).length + (ls [x]).length = 1 := by unfold hs ls; cases hx : x.hi <;> simp [hx]
    omega
theorem Bst.five {q : List Tx} {i : Nat} {v : Int} (h : Bst q i v) (hi : i ≤ q.length) : i = q.length ∨ (∃ u, i < q.length ∧ q[i]? = Option.some u ∧ v = -1 ∧ i = 0) ∨ (∃ (u : Tx) (k : Nat) (t : Tx), i < q.length ∧ q[i]? = Option.some u ∧ v = k ∧ q[k]? = Option.some t ∧ u.hi = false) ∨ (∃ (u : Tx) (k : Nat) (t : Tx), i < q.length ∧ q[i]? = Option.some u ∧ v = k ∧ q[k]? = Option.some t ∧ u.hi = true ∧ t.hi = true) ∨ (∃ (u : Tx) (k : Nat) (t : Tx), i < q.length ∧ q[i]? = Option.some u ∧ v = k ∧ q[k]? = Option.some t ∧ u.hi = true ∧ t.hi = false) := by
  rcases Nat.lt_or_ge i q.length with hl | hl
  · obtain ⟨u, hu, ⟨h1, h2⟩ | ⟨k, t, h1, h2, h3 | ⟨h3, h4⟩ | ⟨h3, h4⟩⟩⟩ := h.cases hl
    · exact .inr (.inl ⟨u, hl, hu, h1, h2⟩)
    · exact .inr (.inr (.inl ⟨u, k, t, hl, hu, h1, h2, h3⟩))
    · exact .inr (.inr (.inr (.inl ⟨u, k, t, hl, hu, h1, h2, h3, h4⟩)))
    · exact .inr (.inr (.inr (.inr ⟨u, k, t, hl, hu, h1, h2, h3, h4⟩)))
  · exact .inl (by omega)
theorem step_none {go : Sn} {out : List Sn} {h l : List Wt} {q : List Tx} (hq : q = []) (hh : hs q = h) (hl : ls q = l) : QS.step ⟨h, l, true, go, out⟩ = ⟨h, l, false, go, out ++ [go]⟩ := by
  subst hq
  obtain rfl : [] = h := hh
  obtain rfl : [] = l := hl
  rfl
theorem step_next {go : Sn} {out : List Sn} {h l : List Wt} {q : List Tx} {k : Nat} {t : Tx} (hb : Bst q q.length (k : Int)) (hk : q[k]? = Option.some t) (hh : hs q = h) (hl : ls q = l) : QS.step ⟨h, l, true, go, out⟩ = ⟨hs (q.take k ++ q.drop (k + 1)), ls (q.take k ++ q.drop (k + 1)), true, goes ⟨t.id, t.tx⟩ go.e, out ++ [go]⟩ := by
  rcases Bst.next hb hk with ⟨h1, h2, h3⟩ | ⟨h1, h2, h3, h4⟩
  · rw [← hh, ← hl, h2, h3]; rfl
  · rw [← hh, ← hl, h2, h3, h4]; rfl
/-- The text that begins next may wait. -/
theorem next_size {q : List Tx} {k : Nat} {t : Tx} {h l : List Wt} (hk : q[k]? = Option.some t) (hh : hs q = h) (hl : ls q = l) (ok : ∀ w, w ∈ h ∨ w ∈ l → w.tx.size ≤ 1518) : t.tx.size ≤ 1518 := by
  have hm := List.mem_of_getElem? hk
  refine ok ⟨t.id, t.tx⟩ ?_
  subst hh hl
  cases ht : t.hi with
  | true => exact .inl (List.mem_map.2 ⟨t, List.mem_filter.2 ⟨hm, ht⟩, rfl⟩)
  | false => exact .inr (List.mem_map.2 ⟨t, List.mem_filter.2 ⟨hm, by rw [ht]; rfl⟩, rfl⟩)
theorem QS.wt_true (h l : List Wt) (go : Sn) (out : List Sn) : QS.wt ⟨h, l, true, go, out⟩ = h.length + l.length + 1 := rfl

theorem RefP.sat0 {σ w : World} {r : Nat} {h l : List Wt} {go : Sn} {out : List Sn} {m0 m1 d0 d1 now : Int} {F : HProp} (hsat : Sat σ w (sep (RefP r ⟨h, l, false, go, out⟩ m0 m1 d0 d1 now) (F))) : ∃ x : List Tx × Hd × Hd × Hd, ((hs x.1 = h ∧ ls x.1 = l) ∧ ((x.2.1.1 = none ∧ x.1 = []) ∨ ∃ b o, x.2.1.1 = Option.some (ad b o)) ∧ x.1.length ≤ x.2.1.2) ∧ Sat σ w (sep (cel r [.slice x.2.1.1 x.1.length x.2.1.2, .slice (x.2.2.1.1) 0 x.2.2.1.2, .slice x.2.2.2.1 out.length x.2.2.2.2, .int .i64 m0, .int .i64 m1, .int .i64 now, .int .i64 d0, .int .i64 d1] 71) (sep (Own 93 3 (.slice x.2.1.1 x.1.length x.2.1.2) x.1.length (flatT x.1)) (sep (Own 48 4 (.slice (x.2.2.1.1) 0 x.2.2.1.2) 0 ([])) (sep (Own 48 4 (.slice x.2.2.2.1 out.length x.2.2.2.2) out.length (flat out)) (F))))) := by
  obtain ⟨⟨q, ⟨A, c⟩, ⟨gA, gc⟩, o⟩, hx⟩ := sat_ex.1 hsat
  simp only [sep_assoc] at hx
  obtain ⟨h1, h2⟩ := sat_lift.1 hx
  have h3 := own_nonnil h2.drop
  have h4 := own_cap h2.drop
  have h5 : (A = none ∧ q = []) ∨ ∃ b o, A = Option.some (ad b o) := by
    rcases h3 with ⟨h3, _, h5, _⟩ | h3
    · exact .inl ⟨h3, List.eq_nil_of_length_eq_zero h5⟩
    · exact .inr h3
  exact ⟨(q, (A, c), (gA, gc), o), ⟨h1, h5, h4.1⟩, h2⟩
theorem RefP.sat1 {σ w : World} {r : Nat} {h l : List Wt} {go : Sn} {out : List Sn} {m0 m1 d0 d1 now : Int} {F : HProp} (hsat : Sat σ w (sep (RefP r ⟨h, l, true, go, out⟩ m0 m1 d0 d1 now) (F))) : ∃ x : List Tx × Hd × (Nat × Nat × Nat) × Hd, ((hs x.1 = h ∧ ls x.1 = l) ∧ ((x.2.1.1 = none ∧ x.1 = []) ∨ ∃ b o, x.2.1.1 = Option.some (ad b o)) ∧ x.1.length ≤ x.2.1.2) ∧ Sat σ w (sep (cel r [.slice x.2.1.1 x.1.length x.2.1.2, .slice (some (ad x.2.2.1.1 x.2.2.1.2.1)) 1 x.2.2.1.2.2, .slice x.2.2.2.1 out.length x.2.2.2.2, .int .i64 m0, .int .i64 m1, .int .i64 now, .int .i64 d0, .int .i64 d1] 71) (sep (Own 93 3 (.slice x.2.1.1 x.1.length x.2.1.2) x.1.length (flatT x.1)) (sep (Own 48 4 (.slice (some (ad x.2.2.1.1 x.2.2.1.2.1)) 1 x.2.2.1.2.2) 1 (flat [go])) (sep (Own 48 4 (.slice x.2.2.2.1 out.length x.2.2.2.2) out.length (flat out)) (F))))) := by
  obtain ⟨⟨q, ⟨A, c⟩, ⟨gA, gc⟩, o⟩, hx⟩ := sat_ex.1 hsat
  simp only [sep_assoc] at hx
  obtain ⟨h1, h2⟩ := sat_lift.1 hx
  have h3 := own_nonnil h2.drop
  have h4 := own_cap h2.drop
  have h5 : (A = none ∧ q = []) ∨ ∃ b o, A = Option.some (ad b o) := by
    rcases h3 with ⟨h3, _, h5, _⟩ | h3
    · exact .inl ⟨h3, List.eq_nil_of_length_eq_zero h5⟩
    · exact .inr h3
  have h6 := own_nonnil h2.drop.drop
  obtain ⟨gb, gq, rfl⟩ : ∃ b o, gA = Option.some (ad b o) := by
    rcases h6 with ⟨_, _, h6, _⟩ | h6
    · cases h6
    · exact h6
  exact ⟨(q, (A, c), (gb, gq, gc), o), ⟨h1, h5, h4.1⟩, h2⟩
set_option maxHeartbeats 800000 in
theorem Tgoes_spec (r : Nat) (s : QS) (m0 m1 d0 d1 cur now : Int) (hnow : -9223372036854775808 ≤ now ∧ now ≤ 2000000000000000000) (hok : s.ok) (hn : s.out.length + s.wt ≤ 1000000) : FSpec Try.prog 50 #[.pointer (some (ad r 0)), .int .i64 now] (RefP r s m0 m1 d0 d1 cur) (fun _ : Unit => True) (fun _ => .tuple #[]) (fun _ => RefP r (s.run now) m0 m1 d0 d1 now) := by
  refine FSpec.enter' Try.func50 rfl Try.ntmps50 rfl fun σ F => ?_
  refine J_ex fun x => ?_
  refine J_eq _ (sep_assoc _ _ _) ?_
  refine J_lift fun hx => ?_
  refine J_eq (sep (cel r [.slice x.2.1.1 x.1.length x.2.1.2, .slice x.2.2.1.1 s.gl.length x.2.2.1.2, .slice x.2.2.2.1 s.out.length x.2.2.2.2, .int .i64 m0, .int .i64 m1, .int .i64 cur, .int .i64 d0, .int .i64 d1] 71) (sep (Own 93 3 (.slice x.2.1.1 x.1.length x.2.1.2) x.1.length (flatT x.1)) (sep (Own 48 4 (.slice x.2.2.1.1 s.gl.length x.2.2.1.2) s.gl.length (flat s.gl)) (sep (Own 48 4 (.slice x.2.2.2.1 s.out.length x.2.2.2.2) s.out.length (flat s.out)) (F))))) (by simp only [sep_assoc]) ?_
  refine J_seq ?_
  refine J_region ?_
  refine L_v (opv_move rfl) rfl ?_
  refine L_v (opv_move rfl) rfl ?_
  refine L_v (opv_nilCheck rfl) rfl ?_
  first
    | refine L_v (opv_fieldAddr0 rfl) rfl ?_
    | refine L_v (opv_fieldAddr rfl) rfl ?_
  refine L_x rfl (opx_store rfl rfl rfl (by simp [Value.oneCell'])) (fun _ _ => ?_)
  refine L_nil ?_
  refine K_then ?_
  refine J_block ?_
  refine J_loop (X := QS) (fun y => [(0, .pointer (some (ad r 0))), (1, .int .i64 now)]) (fun y => (sep (RefP r y m0 m1 d0 d1 now) (F))) (fun y => (y.ok ∧ y.out.length + y.wt ≤ 1000000) ∧ s.run now = y.run now) (fun y => y.wt) (s) ⟨⟨hok, hn⟩, rfl⟩ ⟨rfl, rfl, trivial⟩ (RefP.fold x.1 x.2.1 x.2.2.1 x.2.2.2 hx.1 hx.2) (fun y hy => ?_)
  obtain ⟨⟨hyo, hyn⟩, hy⟩ := hy
  obtain ⟨h, l, b, go, out⟩ := y
  cases b
  · refine J_seq ?_
    refine J_seq ?_
    refine J_pre _ _ (fun w hs => RefP.sat0 hs) fun x hx => ?_
    obtain ⟨q, ⟨A, c⟩, ⟨gA, gc⟩, ⟨oA, oc⟩⟩ := x
    obtain ⟨⟨hh, hl⟩, hA, hcap⟩ := hx
    dsimp only at hh hl hA hcap
    refine J_eq (sep (cel r [.slice A q.length c, .slice gA 0 gc, .slice oA out.length oc, .int .i64 m0, .int .i64 m1, .int .i64 now, .int .i64 d0, .int .i64 d1] 71) (sep (Own 93 3 (.slice A q.length c) q.length (flatT q)) (sep (Own 48 4 (.slice gA 0 gc) 0 []) (sep (Own 48 4 (.slice oA out.length oc) out.length (flat out)) (F))))) rfl ?_
    refine J_region ?_
    refine L_v (opv_move rfl) rfl ?_
    refine L_v (opv_nilCheck rfl) rfl ?_
    first
      | refine L_v (opv_fieldAddr0 rfl) rfl ?_
      | refine L_v (opv_fieldAddr rfl) rfl ?_
    refine L_v (opv_load rfl (Rd.look rfl)) rfl ?_
    first
      | refine L_v (opv_lenL rfl) rfl ?_
      | refine L_v (opv_lenS rfl) rfl ?_
    first
      | refine L_v ((opv_gtr rfl rfl).bool_t (by decide)) rfl ?_
      | refine L_v ((opv_gtr rfl rfl).bool_f (by decide)) rfl ?_
    refine L_v (opv_move rfl) rfl ?_
    refine L_gskip rfl rfl rfl ?_ (fun _ h => by cases h; rfl)
    refine L_gskip rfl rfl rfl ?_ (fun _ h => by cases h; rfl)
    refine L_gskip rfl rfl rfl ?_ (fun _ h => by cases h; rfl)
    refine L_gskip rfl rfl rfl ?_ (fun _ h => by cases h; rfl)
    refine L_gskip rfl rfl rfl ?_ (fun _ h => by cases h; rfl)
    refine L_gskip rfl rfl rfl ?_ (fun _ h => by cases h; rfl)
    refine L_gskip rfl rfl rfl ?_ (fun _ h => by cases h; rfl)
    refine L_gskip rfl rfl rfl ?_ (fun _ h => by cases h; rfl)
    refine L_gskip rfl rfl rfl ?_ (fun _ h => by cases h; rfl)
    first
      | refine L_v (opv_pick_tt rfl rfl) rfl ?_
      | refine L_v (opv_pick_ff rfl rfl) rfl ?_
      | refine L_v (opv_pick rfl rfl rfl) rfl ?_
    refine L_nil ?_
    refine K_then ?_
    refine J_cond_false rfl ?_
    refine J_exit ?_
    refine K_then_exit ?_
    refine K_then_exit ?_
    refine K_block_here ?_
    rw [hy, QS.run_b (fun h => by cases h.1)]
    exact K_end0 rfl () trivial rfl (RefP.fold (s := ⟨h, l, false, go, out⟩) q (A, c) (gA, gc) (oA, oc) hh hl)
  · refine J_seq ?_
    refine J_seq ?_
    refine J_pre _ _ (fun w hs => RefP.sat1 hs) fun x hx => ?_
    obtain ⟨q, ⟨A, c⟩, ⟨gb, gq, gc⟩, ⟨oA, oc⟩⟩ := x
    obtain ⟨⟨hh, hl⟩, hA, hcap⟩ := hx
    dsimp only at hh hl hA hcap
    refine J_eq (sep (cel r [.slice A q.length c, .slice (some (ad gb gq)) 1 gc, .slice oA out.length oc, .int .i64 m0, .int .i64 m1, .int .i64 now, .int .i64 d0, .int .i64 d1] 71) (sep (Own 93 3 (.slice A q.length c) q.length (flatT q)) (sep (Own 48 4 (.slice (some (ad gb gq)) 1 gc) 1 (flat [go])) (sep (Own 48 4 (.slice oA out.length oc) out.length (flat out)) (F))))) rfl ?_
    have hw := QS.wt_true h l go out
    have hlen := len_hl q
    rw [hh, hl] at hlen
    dsimp only at hyn
    refine J_region ?_
    refine L_v (opv_move rfl) rfl ?_
    refine L_v (opv_nilCheck rfl) rfl ?_
    first
      | refine L_v (opv_fieldAddr0 rfl) rfl ?_
      | refine L_v (opv_fieldAddr rfl) rfl ?_
    refine L_v (opv_load rfl (Rd.look rfl)) rfl ?_
    first
      | refine L_v (opv_lenL rfl) rfl ?_
      | refine L_v (opv_lenS rfl) rfl ?_
    first
      | refine L_v ((opv_gtr rfl rfl).bool_t (by decide)) rfl ?_
      | refine L_v ((opv_gtr rfl rfl).bool_f (by decide)) rfl ?_
    refine L_v (opv_move rfl) rfl ?_
    refine L_gon rfl rfl rfl ?_
    refine L_v (opv_move rfl) rfl ?_
    refine L_gon rfl rfl rfl ?_
    refine L_v (opv_nilCheck rfl) rfl ?_
    refine L_gon rfl rfl rfl ?_
    first
      | refine L_v (opv_fieldAddr0 rfl) rfl ?_
      | refine L_v (opv_fieldAddr rfl) rfl ?_
    refine L_gon rfl rfl rfl ?_
    refine L_v (opv_load rfl (Rd.look rfl)) rfl ?_
    refine L_gon rfl rfl rfl ?_
    refine L_v (opv_indexAddr rfl rfl (by decide)) rfl ?_
    refine L_gon rfl rfl rfl ?_
    first
      | refine L_v (opv_fieldAddr0 rfl) rfl ?_
      | refine L_v (opv_fieldAddr rfl) rfl ?_
    refine L_gon rfl rfl rfl ?_
    refine L_v (opv_load rfl (Rd.of_take (S := Own 48 4 (.slice (some (ad gb gq)) 1 gc) 1 (flat [go])) ((RdS.own (m := 4) (e := 48) (c := gc) (xs := [go]) enc_len (.inr ⟨gb, gq, rfl⟩)).rd gb gq rfl 0 go 3 _ rfl rfl))) rfl ?_
    refine L_gon rfl rfl rfl ?_
    refine L_v (opv_move rfl) rfl ?_
    refine L_gon rfl rfl rfl ?_
    refine L_v (opv_leq rfl rfl) rfl ?_
    first
      | refine L_v (opv_pick_tt rfl rfl) rfl ?_
      | refine L_v (opv_pick_ff rfl rfl) rfl ?_
      | refine L_v (opv_pick rfl rfl rfl) rfl ?_
    refine L_nil ?_
    refine K_then ?_
    refine J_cond rfl (fun h1 => ?_) (fun h1 => ?_)
    · have hle : go.e ≤ now := h1
      refine J_skip ?_
      refine K_then ?_
      refine J_block ?_
      refine J_seq ?_
      refine J_region ?_
      refine L_v (opv_move rfl) rfl ?_
      refine L_v (opv_nilCheck rfl) rfl ?_
      first
        | refine L_v (opv_fieldAddr0 rfl) rfl ?_
        | refine L_v (opv_fieldAddr rfl) rfl ?_
      refine L_v (opv_load rfl (Rd.look rfl)) rfl ?_
      refine L_v (opv_indexAddr rfl rfl (by decide)) rfl ?_
      first
        | refine L_v (opv_fieldAddr0 rfl) rfl ?_
        | refine L_v (opv_fieldAddr rfl) rfl ?_
      refine L_v (opv_load rfl (Rd.of_take (S := Own 48 4 (.slice (some (ad gb gq)) 1 gc) 1 (flat [go])) ((RdS.own (m := 4) (e := 48) (c := gc) (xs := [go]) enc_len (.inr ⟨gb, gq, rfl⟩)).rd gb gq rfl 0 go 3 _ rfl rfl))) rfl ?_
      refine L_v (opv_assign rfl) rfl ?_
      refine L_nil ?_
      refine K_then ?_
      refine J_seq ?_
      refine J_steps (Own 48 4 (.slice (some (ad gb gq)) 1 gc) 1 (flat [go])) ((sep (Own 48 4 (.slice (some (ad gb gq)) 1 gc) 1 (flat [go])) (cel r [.slice A q.length c, .slice (some (ad gb gq)) 1 gc, .slice oA out.length oc, .int .i64 m0, .int .i64 m1, .int .i64 now, .int .i64 d0, .int .i64 d1] 71))) [15] Try.mixed ?_
      refine R_pure 0 rfl (by kernel_rfl) (by kernel_rfl) (by kernel_rfl) (by kernel_rfl) (.inr ⟨_, Take.eq (A := (sep (Own 48 4 (.slice (some (ad gb gq)) 1 gc) 1 (flat [go])) (cel r [.slice A q.length c, .slice (some (ad gb gq)) 1 gc, .slice oA out.length oc, .int .i64 m0, .int .i64 m1, .int .i64 now, .int .i64 d0, .int .i64 d1] 71)))⟩) (opv_move rfl) rfl ?_
      refine R_pure 1 rfl (by kernel_rfl) (by kernel_rfl) (by kernel_rfl) (by kernel_rfl) (.inr ⟨_, Take.eq (A := (sep (Own 48 4 (.slice (some (ad gb gq)) 1 gc) 1 (flat [go])) (cel r [.slice A q.length c, .slice (some (ad gb gq)) 1 gc, .slice oA out.length oc, .int .i64 m0, .int .i64 m1, .int .i64 now, .int .i64 d0, .int .i64 d1] 71)))⟩) (opv_move rfl) rfl ?_
      refine R_pure 2 rfl (by kernel_rfl) (by kernel_rfl) (by kernel_rfl) (by kernel_rfl) (.inr ⟨_, Take.eq (A := (sep (Own 48 4 (.slice (some (ad gb gq)) 1 gc) 1 (flat [go])) (cel r [.slice A q.length c, .slice (some (ad gb gq)) 1 gc, .slice oA out.length oc, .int .i64 m0, .int .i64 m1, .int .i64 now, .int .i64 d0, .int .i64 d1] 71)))⟩) (opv_nilCheck rfl) rfl ?_
      first
        | refine R_pure 3 rfl (by kernel_rfl) (by kernel_rfl) (by kernel_rfl) (by kernel_rfl) (.inr ⟨_, Take.eq (A := (sep (Own 48 4 (.slice (some (ad gb gq)) 1 gc) 1 (flat [go])) (cel r [.slice A q.length c, .slice (some (ad gb gq)) 1 gc, .slice oA out.length oc, .int .i64 m0, .int .i64 m1, .int .i64 now, .int .i64 d0, .int .i64 d1] 71)))⟩) (opv_fieldAddr0 rfl) rfl ?_
        | refine R_pure 3 rfl (by kernel_rfl) (by kernel_rfl) (by kernel_rfl) (by kernel_rfl) (.inr ⟨_, Take.eq (A := (sep (Own 48 4 (.slice (some (ad gb gq)) 1 gc) 1 (flat [go])) (cel r [.slice A q.length c, .slice (some (ad gb gq)) 1 gc, .slice oA out.length oc, .int .i64 m0, .int .i64 m1, .int .i64 now, .int .i64 d0, .int .i64 d1] 71)))⟩) (opv_fieldAddr rfl) rfl ?_
      refine R_take 4 rfl (by kernel_rfl) (by kernel_rfl) (by kernel_rfl) (by kernel_rfl) (by kernel_rfl) (opv_load rfl (Rd.look rfl)) rfl ?_
      refine R_pure 5 rfl (by kernel_rfl) (by kernel_rfl) (by kernel_rfl) (by kernel_rfl) (.inr ⟨_, Take.eq (A := (sep (Own 48 4 (.slice (some (ad gb gq)) 1 gc) 1 (flat [go])) (cel r [.slice A q.length c, .slice (some (ad gb gq)) 1 gc, .slice oA out.length oc, .int .i64 m0, .int .i64 m1, .int .i64 now, .int .i64 d0, .int .i64 d1] 71)))⟩) (opv_move rfl) rfl ?_
      refine R_pure 6 rfl (by kernel_rfl) (by kernel_rfl) (by kernel_rfl) (by kernel_rfl) (.inr ⟨_, Take.eq (A := (sep (Own 48 4 (.slice (some (ad gb gq)) 1 gc) 1 (flat [go])) (cel r [.slice A q.length c, .slice (some (ad gb gq)) 1 gc, .slice oA out.length oc, .int .i64 m0, .int .i64 m1, .int .i64 now, .int .i64 d0, .int .i64 d1] 71)))⟩) (opv_nilCheck rfl) rfl ?_
      first
        | refine R_pure 7 rfl (by kernel_rfl) (by kernel_rfl) (by kernel_rfl) (by kernel_rfl) (.inr ⟨_, Take.eq (A := (sep (Own 48 4 (.slice (some (ad gb gq)) 1 gc) 1 (flat [go])) (cel r [.slice A q.length c, .slice (some (ad gb gq)) 1 gc, .slice oA out.length oc, .int .i64 m0, .int .i64 m1, .int .i64 now, .int .i64 d0, .int .i64 d1] 71)))⟩) (opv_fieldAddr0 rfl) rfl ?_
        | refine R_pure 7 rfl (by kernel_rfl) (by kernel_rfl) (by kernel_rfl) (by kernel_rfl) (.inr ⟨_, Take.eq (A := (sep (Own 48 4 (.slice (some (ad gb gq)) 1 gc) 1 (flat [go])) (cel r [.slice A q.length c, .slice (some (ad gb gq)) 1 gc, .slice oA out.length oc, .int .i64 m0, .int .i64 m1, .int .i64 now, .int .i64 d0, .int .i64 d1] 71)))⟩) (opv_fieldAddr rfl) rfl ?_
      refine R_take 8 rfl (by kernel_rfl) (by kernel_rfl) (by kernel_rfl) (by kernel_rfl) (by kernel_rfl) (opv_load rfl (Rd.look rfl)) rfl ?_
      refine R_pure 9 rfl (by kernel_rfl) (by kernel_rfl) (by kernel_rfl) (by kernel_rfl) (.inr ⟨_, Take.eq (A := (sep (Own 48 4 (.slice (some (ad gb gq)) 1 gc) 1 (flat [go])) (cel r [.slice A q.length c, .slice (some (ad gb gq)) 1 gc, .slice oA out.length oc, .int .i64 m0, .int .i64 m1, .int .i64 now, .int .i64 d0, .int .i64 d1] 71)))⟩) (opv_indexAddr rfl rfl (by decide)) rfl ?_
      refine R_take 10 rfl (by kernel_rfl) (by kernel_rfl) (by kernel_rfl) (by kernel_rfl) (by kernel_rfl) (opv_loadN (vs := [.int .i64 go.id, .string go.tx, .int .i64 go.b, .int .i64 go.e]) rfl rfl (fun j u hj => Rd.of_take (S := Own 48 4 (.slice (some (ad gb gq)) 1 gc) 1 (flat [go])) ((RdS.own (m := 4) (e := 48) (c := gc) (xs := [go]) enc_len (.inr ⟨gb, gq, rfl⟩)).rd gb gq rfl 0 go j u rfl hj))) rfl ?_
      refine R_only 11 rfl rfl (by kernel_rfl) (opx_buildSlice1 (m := 4) rfl rfl (by omega) (by omega) rfl) (fun _ _ => ⟨_, Take.eq (A := Own 48 4 (.slice (some (ad gb gq)) 1 gc) 1 (flat [go]))⟩) (.inr fun _ _ => ⟨_, Take.eq (A := (sep (Own 48 4 (.slice (some (ad gb gq)) 1 gc) 1 (flat [go])) (cel r [.slice A q.length c, .slice (some (ad gb gq)) 1 gc, .slice oA out.length oc, .int .i64 m0, .int .i64 m1, .int .i64 now, .int .i64 d0, .int .i64 d1] 71)))⟩) (fun b48 _ => ?_)
      refine R_only 12 rfl rfl (by kernel_rfl) (opx_append (m := 4) (B := 40) rfl rfl (Src.lit) rfl (by omega) rfl (by simp [Value.oneCell']) (by unfold maxLen; omega) (by omega) rfl) (fun _ _ => ⟨_, Take.eq (A := Own 48 4 (.slice (some (ad gb gq)) 1 gc) 1 (flat [go]))⟩) (.inr fun _ _ => ⟨_, Take.eq (A := (sep (Own 48 4 (.slice (some (ad gb gq)) 1 gc) 1 (flat [go])) (cel r [.slice A q.length c, .slice (some (ad gb gq)) 1 gc, .slice oA out.length oc, .int .i64 m0, .int .i64 m1, .int .i64 now, .int .i64 d0, .int .i64 d1] 71)))⟩) (fun y49 _ => ?_)
      refine R_pure 13 rfl (by kernel_rfl) (by kernel_rfl) (by kernel_rfl) (by kernel_rfl) (.inr ⟨_, Take.eq (A := (sep (Own 48 4 (.slice (some (ad gb gq)) 1 gc) 1 (flat [go])) (cel r [.slice A q.length c, .slice (some (ad gb gq)) 1 gc, .slice oA out.length oc, .int .i64 m0, .int .i64 m1, .int .i64 now, .int .i64 d0, .int .i64 d1] 71)))⟩) (opv_nilCheck rfl) rfl ?_
      first
        | refine R_pure 14 rfl (by kernel_rfl) (by kernel_rfl) (by kernel_rfl) (by kernel_rfl) (.inr ⟨_, Take.eq (A := (sep (Own 48 4 (.slice (some (ad gb gq)) 1 gc) 1 (flat [go])) (cel r [.slice A q.length c, .slice (some (ad gb gq)) 1 gc, .slice oA out.length oc, .int .i64 m0, .int .i64 m1, .int .i64 now, .int .i64 d0, .int .i64 d1] 71)))⟩) (opv_fieldAddr0 rfl) rfl ?_
        | refine R_pure 14 rfl (by kernel_rfl) (by kernel_rfl) (by kernel_rfl) (by kernel_rfl) (.inr ⟨_, Take.eq (A := (sep (Own 48 4 (.slice (some (ad gb gq)) 1 gc) 1 (flat [go])) (cel r [.slice A q.length c, .slice (some (ad gb gq)) 1 gc, .slice oA out.length oc, .int .i64 m0, .int .i64 m1, .int .i64 now, .int .i64 d0, .int .i64 d1] 71)))⟩) (opv_fieldAddr rfl) rfl ?_
      refine R_only 15 rfl rfl (by kernel_rfl) (opx_store rfl rfl rfl (by simp [Value.oneCell'])) (fun _ _ => ⟨_, Take.eq (A := Own 48 4 (.slice (some (ad gb gq)) 1 gc) 1 (flat [go]))⟩) (.inl (by kernel_rfl)) (fun _ _ => ?_)
      refine R_done (by kernel_rfl) ?_
      refine K_then ?_
      refine J_seq ?_
      have hfl : flat out ++ [.int .i64 go.id, .string go.tx, .int .i64 go.b, .int .i64 go.e] = flat (out ++ [go]) := flat_snoc out go
      rw [hfl, show out.length + 1 = (out ++ [go]).length by simp]
      refine J_region ?_
      refine L_v (opv_move rfl) rfl ?_
      refine L_v (opv_nilCheck rfl) rfl ?_
      first
        | refine L_v (opv_fieldAddr0 rfl) rfl ?_
        | refine L_v (opv_fieldAddr rfl) rfl ?_
      refine L_x rfl (opx_store rfl rfl rfl (by simp [Value.oneCell'])) (fun _ _ => ?_)
      refine L_nil ?_
      refine K_then ?_
      refine J_seq ?_
      refine J_region ?_
      refine L_v (opv_assign rfl) rfl ?_
      refine L_nil ?_
      refine K_then ?_
      refine J_seq ?_
      refine J_seq ?_
      refine J_region ?_
      refine L_v (opv_assign rfl) rfl ?_
      refine L_nil ?_
      refine K_then ?_
      refine J_block ?_
      refine J_loop (X := Nat × Int) (fun z => [(0, .pointer (some (ad r 0))), (1, .int .i64 now), (4, .int .i64 go.e), (5, .int .i64 z.2), (6, .int .i64 z.1)]) (fun z => (sep (cel r [.slice A q.length c, .slice none 0 0, .slice y49.1 (out ++ [go]).length y49.2, .int .i64 m0, .int .i64 m1, .int .i64 now, .int .i64 d0, .int .i64 d1] 71) (sep (Own 93 3 (.slice A q.length c) q.length (flatT q)) (sep (Own 48 4 (.slice y49.1 (out ++ [go]).length y49.2) (out ++ [go]).length (flat (out ++ [go]))) (F))))) (fun z => z.1 ≤ q.length ∧ Bst q z.1 z.2) (fun z => q.length - z.1) ((0, -1)) ⟨Nat.zero_le _, Bst.zero q⟩ ⟨rfl, rfl, rfl, rfl, rfl, trivial⟩ (Ent.take (Q := (sep (cel r [.slice A q.length c, .slice none 0 0, .slice y49.1 (out ++ [go]).length y49.2, .int .i64 m0, .int .i64 m1, .int .i64 now, .int .i64 d0, .int .i64 d1] 71) (sep (Own 93 3 (.slice A q.length c) q.length (flatT q)) (sep (Own 48 4 (.slice y49.1 (out ++ [go]).length y49.2) (out ++ [go]).length (flat (out ++ [go]))) (F)))))) (fun z hz => ?_)
      obtain ⟨i, v⟩ := z
      obtain ⟨hiz, hbz⟩ := hz
      dsimp only at hiz hbz
      rcases hbz.five hiz with hie | ⟨u, hil, hu, rfl, rfl⟩ | ⟨u, k, t, hil, hu, rfl, hk, huf⟩ | ⟨u, k, t, hil, hu, rfl, hk, hut, htt⟩ | ⟨u, k, t, hil, hu, rfl, hk, hut, htf⟩
      · refine J_seq ?_
        refine J_seq ?_
        refine J_region ?_
        refine L_v (opv_move rfl) rfl ?_
        refine L_v (opv_move rfl) rfl ?_
        refine L_v (opv_nilCheck rfl) rfl ?_
        first
          | refine L_v (opv_fieldAddr0 rfl) rfl ?_
          | refine L_v (opv_fieldAddr rfl) rfl ?_
        refine L_v (opv_load rfl (Rd.look rfl)) rfl ?_
        first
          | refine L_v (opv_lenL rfl) rfl ?_
          | refine L_v (opv_lenS rfl) rfl ?_
        first
          | refine L_v ((opv_lss rfl rfl).bool_t (by omega)) rfl ?_
          | refine L_v ((opv_lss rfl rfl).bool_f (by omega)) rfl ?_
        refine L_nil ?_
        refine K_then ?_
        refine J_cond_false rfl ?_
        refine J_exit ?_
        refine K_then_exit ?_
        refine K_then_exit ?_
        refine K_block_here ?_
        refine K_then ?_
        refine J_seq ?_
        refine J_region ?_
        refine L_v (opv_move rfl) rfl ?_
        refine L_v (opv_geq rfl rfl) rfl ?_
        refine L_nil ?_
        refine K_then ?_
        refine J_cond rfl (fun h2 => ?_) (fun h2 => ?_)
        · obtain ⟨k, t, rfl, hk⟩ : ∃ (k : Nat) (t : Tx), v = k ∧ q[k]? = Option.some t := by
              subst hie
              rcases hbz.at with ⟨_, h⟩ | h
              · omega
              · exact h
          subst hie
          have hkl := get_lt hk
          obtain ⟨b, o, rfl⟩ : ∃ b o, A = some (ad b o) := by rcases hA with ⟨_, h⟩ | h; (rw [h] at hkl; exact absurd hkl (Nat.not_lt_zero _)); exact h
          have hsz := next_size hk hh hl hyo.1
          have hge := hyo.2
          dsimp only at hge
          refine J_seq ?_
          refine J_region ?_
          refine L_v (opv_move rfl) rfl ?_
          refine L_v (opv_nilCheck rfl) rfl ?_
          first
            | refine L_v (opv_fieldAddr0 rfl) rfl ?_
            | refine L_v (opv_fieldAddr rfl) rfl ?_
          refine L_v (opv_load rfl (Rd.look rfl)) rfl ?_
          refine L_v (opv_move rfl) rfl ?_
          first
            | refine L_v (opv_indexAddr rfl rfl (by omega)) rfl ?_
            | refine L_v (opv_indexAddrA rfl rfl (by omega)) rfl ?_
          refine L_v (opv_loadN (vs := [.bool t.hi, .int .i64 t.id, .string t.tx]) rfl rfl (fun j u hj => Rd.of_take (S := Own 93 3 (.slice (some (ad b o)) q.length c) q.length (flatT q)) ((RdS.own (m := 3) (e := 93) (c := c) encT_len (.inr ⟨b, o, rfl⟩)).rd b o rfl k t j u hk hj))) rfl ?_
          refine L_x rfl (opx_alloc rfl) (fun b7 _ => ?_)
          refine L_x rfl (opx_store rfl rfl rfl (by simp [Value.oneCell'])) (fun _ _ => ?_)
          refine L_nil ?_
          refine K_then ?_
          refine J_seq ?_
          refine J_region ?_
          refine L_v (opv_assign rfl) rfl ?_
          refine L_nil ?_
          refine K_then ?_
          refine J_seq ?_
          refine J_imp (sep (Own 93 3 (.slice none 0 0) 0 []) (_)) (Ent.trans (Ent.of (emp_sep _).symm) ((Own.nil 93 3).frame _)) ?_
          refine J_region ?_
          refine L_v (opv_move rfl) rfl ?_
          refine L_v (opv_move rfl) rfl ?_
          refine L_v (opv_nilCheck rfl) rfl ?_
          first
            | refine L_v (opv_fieldAddr0 rfl) rfl ?_
            | refine L_v (opv_fieldAddr rfl) rfl ?_
          refine L_v (opv_load rfl (Rd.look rfl)) rfl ?_
          refine L_v (opv_move rfl) rfl ?_
          refine L_v ((opv_sliceLhi rfl rfl (by omega)).as (v' := .slice (some (ad b o)) k c) (by rw [cutV_at]; simp)) rfl ?_
          refine L_x rfl (opx_append (m := 3) (B := 32) rfl rfl (Src.pre (e := 93) (m := 3) (len := q.length) (c := c) (l := flatT q) (k := k) (c' := c) (news := flatT (q.take k)) (fun j u hj => flatT_take_get hj)) rfl (by omega) (by rw [flatT_len, List.length_take]; omega) (flatT_one _) (by unfold maxLen; omega) (by omega) rfl) (fun y104 _ => ?_)
          refine L_v (opv_assign rfl) rfl ?_
          refine L_nil ?_
          refine K_then ?_
          refine J_seq ?_
          refine J_region ?_
          refine L_v (opv_move rfl) rfl ?_
          refine L_v (opv_move rfl) rfl ?_
          refine L_v (opv_move rfl) rfl ?_
          refine L_v (opv_nilCheck rfl) rfl ?_
          first
            | refine L_v (opv_fieldAddr0 rfl) rfl ?_
            | refine L_v (opv_fieldAddr rfl) rfl ?_
          refine L_v (opv_load rfl (Rd.look rfl)) rfl ?_
          refine L_v (opv_move rfl) rfl ?_
          first
            | refine L_v (opv_add64 rfl rfl (by omega)) rfl ?_
            | refine L_v (opv_addS rfl rfl (by omega)) rfl ?_
            | refine L_v (opv_add rfl rfl) rfl ?_
          refine L_v ((opv_sliceLlo rfl rfl (by omega)).as (v' := cutV (some (ad b o)) (k + 1) q.length c 3) (by rw [show ((k : Int) + 1).toNat = k + 1 by omega])) rfl ?_
          refine L_x rfl (opx_append (m := 3) (B := 32) rfl rfl (Src.rest (e := 93) (k := k) (n := q.length - (k + 1)) rfl hcap) rfl (by omega) (by rw [flatT_len, List.length_drop]) (flatT_one _) (by unfold maxLen; omega) (by omega) rfl) (fun y114 _ => ?_)
          refine L_v (opv_nilCheck rfl) rfl ?_
          first
            | refine L_v (opv_fieldAddr0 rfl) rfl ?_
            | refine L_v (opv_fieldAddr rfl) rfl ?_
          refine L_x rfl (opx_store rfl rfl rfl (by simp [Value.oneCell'])) (fun _ _ => ?_)
          refine L_nil ?_
          refine K_then ?_
          refine J_region ?_
          refine L_v (opv_move rfl) rfl ?_
          refine L_v (opv_move rfl) rfl ?_
          refine L_v (opv_loadS rfl) rfl ?_
          refine L_x rfl (opx_call0 (Tbegin_cel r (.slice y114.1 (0 + k + (q.length - (k + 1))) y114.2) (.slice none 0 0) (.slice y49.1 (out ++ [go]).length y49.2) (.int .i64 m0) (.int .i64 m1) (.int .i64 now) (.int .i64 d0) (.int .i64 d1) go.e t (by omega) hsz) rfl rfl rfl) (fun b120 _ => ?_)
          refine L_nil ?_
          refine K_block ?_
          have hsum := QS.step_sum (⟨h, l, true, go, out⟩ : QS) rfl
          have hwl := QS.step_wt (s := (⟨h, l, true, go, out⟩ : QS)) rfl
          have hok1 := QS.ok_step hyo
          have hrun := QS.run_a (s := (⟨h, l, true, go, out⟩ : QS)) ⟨rfl, hle⟩
          rw [step_next hbz hk hh hl] at hsum hwl hok1 hrun
          have e1 : [] ++ flatT (q.take k) ++ flatT (q.drop (k + 1)) = flatT (q.take k ++ q.drop (k + 1)) := by simp [flatT]
          have e2 : 0 + k + (q.length - (k + 1)) = (q.take k ++ q.drop (k + 1)).length := by rw [List.length_append, List.length_take, List.length_drop]; omega
          rw [e1, e2]
          exact K_loop ((⟨hs (q.take k ++ q.drop (k + 1)), ls (q.take k ++ q.drop (k + 1)), true, goes ⟨t.id, t.tx⟩ go.e, out ++ [go]⟩ : QS)) ⟨⟨hok1, Nat.le_trans hsum hyn⟩, by rw [hy, hrun]⟩ hwl ⟨rfl, rfl, trivial⟩ (Ent.trans (Ent.take (Q := (sep (cel r [.slice y114.1 (q.take k ++ q.drop (k + 1)).length y114.2, .slice (some (ad b120 0)) 1 1, .slice y49.1 (out ++ [go]).length y49.2, .int .i64 m0, .int .i64 m1, .int .i64 now, .int .i64 d0, .int .i64 d1] 71) (sep (Own 93 3 (.slice y114.1 (q.take k ++ q.drop (k + 1)).length y114.2) (q.take k ++ q.drop (k + 1)).length (flatT (q.take k ++ q.drop (k + 1)))) (sep (cel b120 [.int .i64 t.id, .string t.tx, .int .i64 go.e, .int .i64 (go.e + ((t.tx.size : Int) + 20))] 48) (sep (Own 48 4 (.slice y49.1 (out ++ [go]).length y49.2) (out ++ [go]).length (flat (out ++ [go]))) (F))))))) (RefP.fold1 (go := goes ⟨t.id, t.tx⟩ go.e) (q.take k ++ q.drop (k + 1)) y114 y49 rfl rfl))
        · subst hie
          refine J_skip ?_
          refine K_block ?_
          have hsum := QS.step_sum (⟨h, l, true, go, out⟩ : QS) rfl
          have hwl := QS.step_wt (s := (⟨h, l, true, go, out⟩ : QS)) rfl
          have hok1 := QS.ok_step hyo
          have hrun := QS.run_a (s := (⟨h, l, true, go, out⟩ : QS)) ⟨rfl, hle⟩
          have hq0 : q = [] := hbz.none (by omega)
          rw [step_none hq0 hh hl] at hsum hwl hok1 hrun
          exact K_loop ((⟨h, l, false, go, out ++ [go]⟩ : QS)) ⟨⟨hok1, Nat.le_trans hsum hyn⟩, by rw [hy, hrun]⟩ hwl ⟨rfl, rfl, trivial⟩ (RefP.fold0 q (A, c) y49 hh hl)
      · refine J_seq ?_
        refine J_seq ?_
        obtain ⟨b, o, rfl⟩ : ∃ b o, A = some (ad b o) := by rcases hA with ⟨_, h⟩ | h; (rw [h] at hil; exact absurd hil (Nat.not_lt_zero _)); exact h
        refine J_region ?_
        refine L_v (opv_move rfl) rfl ?_
        refine L_v (opv_move rfl) rfl ?_
        refine L_v (opv_nilCheck rfl) rfl ?_
        first
          | refine L_v (opv_fieldAddr0 rfl) rfl ?_
          | refine L_v (opv_fieldAddr rfl) rfl ?_
        refine L_v (opv_load rfl (Rd.look rfl)) rfl ?_
        first
          | refine L_v (opv_lenL rfl) rfl ?_
          | refine L_v (opv_lenS rfl) rfl ?_
        first
          | refine L_v ((opv_lss rfl rfl).bool_t (by omega)) rfl ?_
          | refine L_v ((opv_lss rfl rfl).bool_f (by omega)) rfl ?_
        refine L_nil ?_
        refine K_then ?_
        refine J_cond_true rfl ?_
        refine J_skip ?_
        refine K_then ?_
        refine J_seq ?_
        refine J_block ?_
        refine J_seq ?_
        refine J_region ?_
        refine L_v (opv_move rfl) rfl ?_
        first
          | refine L_v ((opv_lss rfl rfl).bool_t (by omega)) rfl ?_
          | refine L_v ((opv_lss rfl rfl).bool_f (by omega)) rfl ?_
        refine L_v (opv_move rfl) rfl ?_
        refine L_gskip rfl rfl rfl ?_ (fun _ h => by cases h; rfl)
        refine L_gskip rfl rfl rfl ?_ (fun _ h => by cases h; rfl)
        refine L_gskip rfl rfl rfl ?_ (fun _ h => by cases h; rfl)
        refine L_gskip rfl rfl rfl ?_ (fun _ h => by cases h; rfl)
        refine L_gskip rfl rfl rfl ?_ (fun _ h => by cases h; rfl)
        refine L_gskip rfl rfl rfl ?_ (fun _ h => by cases h; rfl)
        refine L_gskip rfl rfl rfl ?_ (fun _ h => by cases h; rfl)
        refine L_gskip rfl rfl rfl ?_ (fun _ h => by cases h; rfl)
        refine L_gskipU rfl rfl rfl rfl ?_
        refine L_gU rfl rfl rfl ?_
        refine L_gU rfl rfl rfl ?_
        refine L_gU rfl rfl rfl ?_
        refine L_gU rfl rfl rfl ?_
        refine L_gU rfl rfl rfl ?_
        refine L_gU rfl rfl rfl ?_
        refine L_gU rfl rfl rfl ?_
        refine L_gU rfl rfl rfl ?_
        refine L_gU rfl rfl rfl ?_
        refine L_gskip rfl rfl rfl ?_ (fun _ h => by cases h; rfl)
        first
          | refine L_v (opv_pick_tt rfl rfl) rfl ?_
          | refine L_v (opv_pick_ff rfl rfl) rfl ?_
          | refine L_v (opv_pick rfl rfl rfl) rfl ?_
        refine L_nil ?_
        refine K_then ?_
        refine J_cond_true rfl ?_
        refine J_region ?_
        refine L_v (opv_move rfl) rfl ?_
        refine L_v (opv_assign rfl) rfl ?_
        refine L_nil ?_
        refine K_block ?_
        refine K_then ?_
        refine J_region ?_
        refine L_v (opv_move rfl) rfl ?_
        first
          | refine L_v (opv_add64 rfl rfl (by omega)) rfl ?_
          | refine L_v (opv_addS rfl rfl (by omega)) rfl ?_
          | refine L_v (opv_add rfl rfl) rfl ?_
        refine L_v (opv_assign rfl) rfl ?_
        refine L_nil ?_
        exact K_loop ((0 + 1, ((0 : Nat) : Int))) ⟨by dsimp only; omega, Bst.first hu⟩ (by dsimp only; omega) ⟨rfl, rfl, rfl, rfl, rfl, trivial⟩ (Ent.refl _)
      · refine J_seq ?_
        refine J_seq ?_
        obtain ⟨b, o, rfl⟩ : ∃ b o, A = some (ad b o) := by rcases hA with ⟨_, h⟩ | h; (rw [h] at hil; exact absurd hil (Nat.not_lt_zero _)); exact h
        have hkl := get_lt hk
        refine J_region ?_
        refine L_v (opv_move rfl) rfl ?_
        refine L_v (opv_move rfl) rfl ?_
        refine L_v (opv_nilCheck rfl) rfl ?_
        first
          | refine L_v (opv_fieldAddr0 rfl) rfl ?_
          | refine L_v (opv_fieldAddr rfl) rfl ?_
        refine L_v (opv_load rfl (Rd.look rfl)) rfl ?_
        first
          | refine L_v (opv_lenL rfl) rfl ?_
          | refine L_v (opv_lenS rfl) rfl ?_
        first
          | refine L_v ((opv_lss rfl rfl).bool_t (by omega)) rfl ?_
          | refine L_v ((opv_lss rfl rfl).bool_f (by omega)) rfl ?_
        refine L_nil ?_
        refine K_then ?_
        refine J_cond_true rfl ?_
        refine J_skip ?_
        refine K_then ?_
        refine J_seq ?_
        refine J_block ?_
        refine J_seq ?_
        refine J_region ?_
        refine L_v (opv_move rfl) rfl ?_
        first
          | refine L_v ((opv_lss rfl rfl).bool_t (by omega)) rfl ?_
          | refine L_v ((opv_lss rfl rfl).bool_f (by omega)) rfl ?_
        refine L_v (opv_move rfl) rfl ?_
        refine L_gon rfl rfl rfl ?_
        refine L_v (opv_move rfl) rfl ?_
        refine L_gon rfl rfl rfl ?_
        refine L_v (opv_nilCheck rfl) rfl ?_
        refine L_gon rfl rfl rfl ?_
        first
          | refine L_v (opv_fieldAddr0 rfl) rfl ?_
          | refine L_v (opv_fieldAddr rfl) rfl ?_
        refine L_gon rfl rfl rfl ?_
        refine L_v (opv_load rfl (Rd.look rfl)) rfl ?_
        refine L_gon rfl rfl rfl ?_
        refine L_v (opv_move rfl) rfl ?_
        refine L_gon rfl rfl rfl ?_
        first
          | refine L_v (opv_indexAddr rfl rfl (by omega)) rfl ?_
          | refine L_v (opv_indexAddrA rfl rfl (by omega)) rfl ?_
        refine L_gon rfl rfl rfl ?_
        first
          | refine L_v (opv_fieldAddr0 rfl) rfl ?_
          | refine L_v (opv_fieldAddr rfl) rfl ?_
        refine L_gon rfl rfl rfl ?_
        first
          | refine L_v ((opv_load rfl (Rd.of_take (S := Own 93 3 (.slice (some (ad b o)) q.length c) q.length (flatT q)) ((RdS.own (m := 3) (e := 93) (c := c) encT_len (.inr ⟨b, o, rfl⟩)).rd b o rfl i u 0 _ hu rfl))).as (v' := .bool false) (congrArg Value.bool huf)) rfl ?_
          | refine L_v ((opv_load rfl (Rd.of_take (S := Own 93 3 (.slice (some (ad b o)) q.length c) q.length (flatT q)) ((RdS.own (m := 3) (e := 93) (c := c) encT_len (.inr ⟨b, o, rfl⟩)).rd b o rfl i u 0 _ hu rfl))).as (v' := .bool true) (congrArg Value.bool hut)) rfl ?_
        refine L_gon rfl rfl rfl ?_
        refine L_v (opv_move rfl) rfl ?_
        refine L_gskip rfl rfl rfl ?_ (fun _ h => by cases h; rfl)
        refine L_gskip rfl rfl rfl ?_ (fun _ h => by cases h; rfl)
        refine L_gskip rfl rfl rfl ?_ (fun _ h => by cases h; rfl)
        refine L_gskip rfl rfl rfl ?_ (fun _ h => by cases h; rfl)
        refine L_gskip rfl rfl rfl ?_ (fun _ h => by cases h; rfl)
        refine L_gskip rfl rfl rfl ?_ (fun _ h => by cases h; rfl)
        refine L_gskip rfl rfl rfl ?_ (fun _ h => by cases h; rfl)
        refine L_gskip rfl rfl rfl ?_ (fun _ h => by cases h; rfl)
        refine L_gskip rfl rfl rfl ?_ (fun _ h => by cases h; rfl)
        refine L_gon rfl rfl rfl ?_
        first
          | refine L_v (opv_pick_tt rfl rfl) rfl ?_
          | refine L_v (opv_pick_ff rfl rfl) rfl ?_
          | refine L_v (opv_pick rfl rfl rfl) rfl ?_
        first
          | refine L_v (opv_pick_tt rfl rfl) rfl ?_
          | refine L_v (opv_pick_ff rfl rfl) rfl ?_
          | refine L_v (opv_pick rfl rfl rfl) rfl ?_
        refine L_nil ?_
        refine K_then ?_
        refine J_cond_false rfl ?_
        refine J_skip ?_
        refine K_block ?_
        refine K_then ?_
        refine J_region ?_
        refine L_v (opv_move rfl) rfl ?_
        first
          | refine L_v (opv_add64 rfl rfl (by omega)) rfl ?_
          | refine L_v (opv_addS rfl rfl (by omega)) rfl ?_
          | refine L_v (opv_add rfl rfl) rfl ?_
        refine L_v (opv_assign rfl) rfl ?_
        refine L_nil ?_
        exact K_loop ((i + 1, (k : Int))) ⟨by dsimp only; omega, hbz.stay hk hu (.inl huf)⟩ (by dsimp only; omega) ⟨rfl, rfl, rfl, rfl, rfl, trivial⟩ (Ent.refl _)
      · refine J_seq ?_
        refine J_seq ?_
        obtain ⟨b, o, rfl⟩ : ∃ b o, A = some (ad b o) := by rcases hA with ⟨_, h⟩ | h; (rw [h] at hil; exact absurd hil (Nat.not_lt_zero _)); exact h
        have hkl := get_lt hk
        refine J_region ?_
        refine L_v (opv_move rfl) rfl ?_
        refine L_v (opv_move rfl) rfl ?_
        refine L_v (opv_nilCheck rfl) rfl ?_
        first
          | refine L_v (opv_fieldAddr0 rfl) rfl ?_
          | refine L_v (opv_fieldAddr rfl) rfl ?_
        refine L_v (opv_load rfl (Rd.look rfl)) rfl ?_
        first
          | refine L_v (opv_lenL rfl) rfl ?_
          | refine L_v (opv_lenS rfl) rfl ?_
        first
          | refine L_v ((opv_lss rfl rfl).bool_t (by omega)) rfl ?_
          | refine L_v ((opv_lss rfl rfl).bool_f (by omega)) rfl ?_
        refine L_nil ?_
        refine K_then ?_
        refine J_cond_true rfl ?_
        refine J_skip ?_
        refine K_then ?_
        refine J_seq ?_
        refine J_block ?_
        refine J_seq ?_
        refine J_region ?_
        refine L_v (opv_move rfl) rfl ?_
        first
          | refine L_v ((opv_lss rfl rfl).bool_t (by omega)) rfl ?_
          | refine L_v ((opv_lss rfl rfl).bool_f (by omega)) rfl ?_
        refine L_v (opv_move rfl) rfl ?_
        refine L_gon rfl rfl rfl ?_
        refine L_v (opv_move rfl) rfl ?_
        refine L_gon rfl rfl rfl ?_
        refine L_v (opv_nilCheck rfl) rfl ?_
        refine L_gon rfl rfl rfl ?_
        first
          | refine L_v (opv_fieldAddr0 rfl) rfl ?_
          | refine L_v (opv_fieldAddr rfl) rfl ?_
        refine L_gon rfl rfl rfl ?_
        refine L_v (opv_load rfl (Rd.look rfl)) rfl ?_
        refine L_gon rfl rfl rfl ?_
        refine L_v (opv_move rfl) rfl ?_
        refine L_gon rfl rfl rfl ?_
        first
          | refine L_v (opv_indexAddr rfl rfl (by omega)) rfl ?_
          | refine L_v (opv_indexAddrA rfl rfl (by omega)) rfl ?_
        refine L_gon rfl rfl rfl ?_
        first
          | refine L_v (opv_fieldAddr0 rfl) rfl ?_
          | refine L_v (opv_fieldAddr rfl) rfl ?_
        refine L_gon rfl rfl rfl ?_
        first
          | refine L_v ((opv_load rfl (Rd.of_take (S := Own 93 3 (.slice (some (ad b o)) q.length c) q.length (flatT q)) ((RdS.own (m := 3) (e := 93) (c := c) encT_len (.inr ⟨b, o, rfl⟩)).rd b o rfl i u 0 _ hu rfl))).as (v' := .bool false) (congrArg Value.bool huf)) rfl ?_
          | refine L_v ((opv_load rfl (Rd.of_take (S := Own 93 3 (.slice (some (ad b o)) q.length c) q.length (flatT q)) ((RdS.own (m := 3) (e := 93) (c := c) encT_len (.inr ⟨b, o, rfl⟩)).rd b o rfl i u 0 _ hu rfl))).as (v' := .bool true) (congrArg Value.bool hut)) rfl ?_
        refine L_gon rfl rfl rfl ?_
        refine L_v (opv_move rfl) rfl ?_
        refine L_gon rfl rfl rfl ?_
        refine L_v (opv_move rfl) rfl ?_
        refine L_gon rfl rfl rfl ?_
        refine L_v (opv_nilCheck rfl) rfl ?_
        refine L_gon rfl rfl rfl ?_
        first
          | refine L_v (opv_fieldAddr0 rfl) rfl ?_
          | refine L_v (opv_fieldAddr rfl) rfl ?_
        refine L_gon rfl rfl rfl ?_
        refine L_v (opv_load rfl (Rd.look rfl)) rfl ?_
        refine L_gon rfl rfl rfl ?_
        refine L_v (opv_move rfl) rfl ?_
        refine L_gon rfl rfl rfl ?_
        first
          | refine L_v (opv_indexAddr rfl rfl (by omega)) rfl ?_
          | refine L_v (opv_indexAddrA rfl rfl (by omega)) rfl ?_
        refine L_gon rfl rfl rfl ?_
        first
          | refine L_v (opv_fieldAddr0 rfl) rfl ?_
          | refine L_v (opv_fieldAddr rfl) rfl ?_
        refine L_gon rfl rfl rfl ?_
        first
          | refine L_v ((opv_load rfl (Rd.of_take (S := Own 93 3 (.slice (some (ad b o)) q.length c) q.length (flatT q)) ((RdS.own (m := 3) (e := 93) (c := c) encT_len (.inr ⟨b, o, rfl⟩)).rd b o rfl k t 0 _ hk rfl))).as (v' := .bool true) (congrArg Value.bool htt)) rfl ?_
          | refine L_v ((opv_load rfl (Rd.of_take (S := Own 93 3 (.slice (some (ad b o)) q.length c) q.length (flatT q)) ((RdS.own (m := 3) (e := 93) (c := c) encT_len (.inr ⟨b, o, rfl⟩)).rd b o rfl k t 0 _ hk rfl))).as (v' := .bool false) (congrArg Value.bool htf)) rfl ?_
        refine L_gon rfl rfl rfl ?_
        refine L_v (opv_not rfl) rfl ?_
        refine L_gon rfl rfl rfl ?_
        first
          | refine L_v (opv_pick_tt rfl rfl) rfl ?_
          | refine L_v (opv_pick_ff rfl rfl) rfl ?_
          | refine L_v (opv_pick rfl rfl rfl) rfl ?_
        first
          | refine L_v (opv_pick_tt rfl rfl) rfl ?_
          | refine L_v (opv_pick_ff rfl rfl) rfl ?_
          | refine L_v (opv_pick rfl rfl rfl) rfl ?_
        refine L_nil ?_
        refine K_then ?_
        refine J_cond_false rfl ?_
        refine J_skip ?_
        refine K_block ?_
        refine K_then ?_
        refine J_region ?_
        refine L_v (opv_move rfl) rfl ?_
        first
          | refine L_v (opv_add64 rfl rfl (by omega)) rfl ?_
          | refine L_v (opv_addS rfl rfl (by omega)) rfl ?_
          | refine L_v (opv_add rfl rfl) rfl ?_
        refine L_v (opv_assign rfl) rfl ?_
        refine L_nil ?_
        exact K_loop ((i + 1, (k : Int))) ⟨by dsimp only; omega, hbz.stay hk hu (.inr htt)⟩ (by dsimp only; omega) ⟨rfl, rfl, rfl, rfl, rfl, trivial⟩ (Ent.refl _)
      · refine J_seq ?_
        refine J_seq ?_
        obtain ⟨b, o, rfl⟩ : ∃ b o, A = some (ad b o) := by rcases hA with ⟨_, h⟩ | h; (rw [h] at hil; exact absurd hil (Nat.not_lt_zero _)); exact h
        have hkl := get_lt hk
        refine J_region ?_
        refine L_v (opv_move rfl) rfl ?_
        refine L_v (opv_move rfl) rfl ?_
        refine L_v (opv_nilCheck rfl) rfl ?_
        first
          | refine L_v (opv_fieldAddr0 rfl) rfl ?_
          | refine L_v (opv_fieldAddr rfl) rfl ?_
        refine L_v (opv_load rfl (Rd.look rfl)) rfl ?_
        first
          | refine L_v (opv_lenL rfl) rfl ?_
          | refine L_v (opv_lenS rfl) rfl ?_
        first
          | refine L_v ((opv_lss rfl rfl).bool_t (by omega)) rfl ?_
          | refine L_v ((opv_lss rfl rfl).bool_f (by omega)) rfl ?_
        refine L_nil ?_
        refine K_then ?_
        refine J_cond_true rfl ?_
        refine J_skip ?_
        refine K_then ?_
        refine J_seq ?_
        refine J_block ?_
        refine J_seq ?_
        refine J_region ?_
        refine L_v (opv_move rfl) rfl ?_
        first
          | refine L_v ((opv_lss rfl rfl).bool_t (by omega)) rfl ?_
          | refine L_v ((opv_lss rfl rfl).bool_f (by omega)) rfl ?_
        refine L_v (opv_move rfl) rfl ?_
        refine L_gon rfl rfl rfl ?_
        refine L_v (opv_move rfl) rfl ?_
        refine L_gon rfl rfl rfl ?_
        refine L_v (opv_nilCheck rfl) rfl ?_
        refine L_gon rfl rfl rfl ?_
        first
          | refine L_v (opv_fieldAddr0 rfl) rfl ?_
          | refine L_v (opv_fieldAddr rfl) rfl ?_
        refine L_gon rfl rfl rfl ?_
        refine L_v (opv_load rfl (Rd.look rfl)) rfl ?_
        refine L_gon rfl rfl rfl ?_
        refine L_v (opv_move rfl) rfl ?_
        refine L_gon rfl rfl rfl ?_
        first
          | refine L_v (opv_indexAddr rfl rfl (by omega)) rfl ?_
          | refine L_v (opv_indexAddrA rfl rfl (by omega)) rfl ?_
        refine L_gon rfl rfl rfl ?_
        first
          | refine L_v (opv_fieldAddr0 rfl) rfl ?_
          | refine L_v (opv_fieldAddr rfl) rfl ?_
        refine L_gon rfl rfl rfl ?_
        first
          | refine L_v ((opv_load rfl (Rd.of_take (S := Own 93 3 (.slice (some (ad b o)) q.length c) q.length (flatT q)) ((RdS.own (m := 3) (e := 93) (c := c) encT_len (.inr ⟨b, o, rfl⟩)).rd b o rfl i u 0 _ hu rfl))).as (v' := .bool false) (congrArg Value.bool huf)) rfl ?_
          | refine L_v ((opv_load rfl (Rd.of_take (S := Own 93 3 (.slice (some (ad b o)) q.length c) q.length (flatT q)) ((RdS.own (m := 3) (e := 93) (c := c) encT_len (.inr ⟨b, o, rfl⟩)).rd b o rfl i u 0 _ hu rfl))).as (v' := .bool true) (congrArg Value.bool hut)) rfl ?_
        refine L_gon rfl rfl rfl ?_
        refine L_v (opv_move rfl) rfl ?_
        refine L_gon rfl rfl rfl ?_
        refine L_v (opv_move rfl) rfl ?_
        refine L_gon rfl rfl rfl ?_
        refine L_v (opv_nilCheck rfl) rfl ?_
        refine L_gon rfl rfl rfl ?_
        first
          | refine L_v (opv_fieldAddr0 rfl) rfl ?_
          | refine L_v (opv_fieldAddr rfl) rfl ?_
        refine L_gon rfl rfl rfl ?_
        refine L_v (opv_load rfl (Rd.look rfl)) rfl ?_
        refine L_gon rfl rfl rfl ?_
        refine L_v (opv_move rfl) rfl ?_
        refine L_gon rfl rfl rfl ?_
        first
          | refine L_v (opv_indexAddr rfl rfl (by omega)) rfl ?_
          | refine L_v (opv_indexAddrA rfl rfl (by omega)) rfl ?_
        refine L_gon rfl rfl rfl ?_
        first
          | refine L_v (opv_fieldAddr0 rfl) rfl ?_
          | refine L_v (opv_fieldAddr rfl) rfl ?_
        refine L_gon rfl rfl rfl ?_
        first
          | refine L_v ((opv_load rfl (Rd.of_take (S := Own 93 3 (.slice (some (ad b o)) q.length c) q.length (flatT q)) ((RdS.own (m := 3) (e := 93) (c := c) encT_len (.inr ⟨b, o, rfl⟩)).rd b o rfl k t 0 _ hk rfl))).as (v' := .bool true) (congrArg Value.bool htt)) rfl ?_
          | refine L_v ((opv_load rfl (Rd.of_take (S := Own 93 3 (.slice (some (ad b o)) q.length c) q.length (flatT q)) ((RdS.own (m := 3) (e := 93) (c := c) encT_len (.inr ⟨b, o, rfl⟩)).rd b o rfl k t 0 _ hk rfl))).as (v' := .bool false) (congrArg Value.bool htf)) rfl ?_
        refine L_gon rfl rfl rfl ?_
        refine L_v (opv_not rfl) rfl ?_
        refine L_gon rfl rfl rfl ?_
        first
          | refine L_v (opv_pick_tt rfl rfl) rfl ?_
          | refine L_v (opv_pick_ff rfl rfl) rfl ?_
          | refine L_v (opv_pick rfl rfl rfl) rfl ?_
        first
          | refine L_v (opv_pick_tt rfl rfl) rfl ?_
          | refine L_v (opv_pick_ff rfl rfl) rfl ?_
          | refine L_v (opv_pick rfl rfl rfl) rfl ?_
        refine L_nil ?_
        refine K_then ?_
        refine J_cond_true rfl ?_
        refine J_region ?_
        refine L_v (opv_move rfl) rfl ?_
        refine L_v (opv_assign rfl) rfl ?_
        refine L_nil ?_
        refine K_block ?_
        refine K_then ?_
        refine J_region ?_
        refine L_v (opv_move rfl) rfl ?_
        first
          | refine L_v (opv_add64 rfl rfl (by omega)) rfl ?_
          | refine L_v (opv_addS rfl rfl (by omega)) rfl ?_
          | refine L_v (opv_add rfl rfl) rfl ?_
        refine L_v (opv_assign rfl) rfl ?_
        refine L_nil ?_
        exact K_loop ((i + 1, (i : Int))) ⟨by dsimp only; omega, hbz.take hk hu hut htf⟩ (by dsimp only; omega) ⟨rfl, rfl, rfl, rfl, rfl, trivial⟩ (Ent.refl _)
    · refine J_exit ?_
      refine K_then_exit ?_
      refine K_then_exit ?_
      refine K_block_here ?_
      rw [hy, QS.run_b (fun h => h1 h.2)]
      exact K_end0 rfl () trivial rfl (RefP.fold (s := ⟨h, l, true, go, out⟩) q (A, c) ((some (ad gb gq)), gc) (oA, oc) hh hl)

end Go.Proofs.Ytpnpdliimidoaaa
