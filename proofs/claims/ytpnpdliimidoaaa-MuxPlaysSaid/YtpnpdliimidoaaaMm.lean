/- The law MuxPlays of the package pitotlaw14 holds for every input: the wire answers as the plain one of the reference does. No condition. -/
import Derived.Test.YtpnpdliimidoaaaMl
import Derived.Test.YtpnpdliimidoaaaH
namespace Go.Proofs.Ytpnpdliimidoaaa
open Go.SLA
set_option maxRecDepth 100000
set_option linter.unusedVariables false
set_option linter.unusedSimpArgs false
attribute [local irreducible] J L K QL Rg FSpec OpV OpX Rd Back
theorem Offer_err (p : Nat) (q : List Sn) (cur free now id : Int) (text : ByteArray) (h : tim cur now ≠ 0) : FSpec Try.prog 19 #[.pointer (some (ad p 0)), .int .i64 now, .int .i64 id, .string text] (LineP p q cur free) (fun _ : Unit => True) (fun _ => .int .i64 (tim cur now)) (fun _ => LineP p q cur free) := by
  refine FSpec.enter' Try.func19 rfl Try.ntmps19 rfl fun σ F => ?_
  refine J_ex fun x => ?_
  refine J_eq _ (sep_assoc _ _ _) ?_
  refine J_seq ?_
  refine J_region ?_
  refine L_v (opv_assign rfl) rfl ?_
  refine L_nil ?_
  refine K_then ?_
  refine J_seq ?_
  refine J_region ?_
  refine L_v (opv_move rfl) rfl ?_
  refine L_v (opv_move rfl) rfl ?_
  refine L_x rfl (opx_call0 (timely_spec p (.slice x.1 q.length x.2) cur free now) rfl rfl rfl) (fun _ _ => ?_)
  refine L_v (opv_assign rfl) rfl ?_
  refine L_nil ?_
  refine K_then ?_
  refine J_seq ?_
  refine J_block ?_
  refine J_seq ?_
  refine J_region ?_
  refine L_v (opv_move rfl) rfl ?_
  first
    | refine L_v (opv_neq rfl rfl) rfl ?_
    | refine L_v (opv_neqS rfl rfl) rfl ?_
    | refine L_v (opv_neqNil rfl rfl) rfl ?_
    | refine L_v (opv_neqB rfl rfl) rfl ?_
  refine L_v (opv_assign rfl) rfl ?_
  refine L_nil ?_
  refine K_then ?_
  refine J_cond rfl (fun h1 => ?_) (fun h1 => absurd h h1)
  refine J_seq ?_
  refine J_region ?_
  refine L_v (opv_move rfl) rfl ?_
  refine L_v (opv_assign rfl) rfl ?_
  refine L_nil ?_
  refine K_then ?_
  refine J_ret ?_
  refine K_block_ret ?_
  refine K_then_ret ?_
  exact K_ret1 rfl rfl () trivial (rfl) (Ent.trans Ent.take (LineP.fold x.1 x.2))

theorem ROffer_err (r : Nat) (q : List Sn) (cur free now id : Int) (text : ByteArray) (h : tim cur now ≠ 0) : FSpec Try.prog 23 #[.pointer (some (ad r 0)), .int .i64 now, .int .i64 id, .string text] (RLineP r q cur free) (fun _ : Unit => True) (fun _ => .int .i64 (tim cur now)) (fun _ => RLineP r q cur free) := by
  refine FSpec.enter' Try.func23 rfl Try.ntmps23 rfl fun σ F => ?_
  refine J_ex fun x => ?_
  refine J_eq _ (sep_assoc _ _ _) ?_
  refine J_seq ?_
  refine J_region ?_
  refine L_v (opv_assign rfl) rfl ?_
  refine L_nil ?_
  refine K_then ?_
  refine J_seq ?_
  refine J_region ?_
  refine L_v (opv_move rfl) rfl ?_
  refine L_v (opv_move rfl) rfl ?_
  refine L_x rfl (opx_call0 (Rtime_spec r (.slice x.1 q.length x.2) cur free now) rfl rfl rfl) (fun _ _ => ?_)
  refine L_v (opv_assign rfl) rfl ?_
  refine L_nil ?_
  refine K_then ?_
  refine J_seq ?_
  refine J_seq ?_
  refine J_region ?_
  refine L_v (opv_move rfl) rfl ?_
  first
    | refine L_v (opv_neq rfl rfl) rfl ?_
    | refine L_v (opv_neqS rfl rfl) rfl ?_
    | refine L_v (opv_neqNil rfl rfl) rfl ?_
    | refine L_v (opv_neqB rfl rfl) rfl ?_
  refine L_nil ?_
  refine K_then ?_
  refine J_cond rfl (fun h1 => ?_) (fun h1 => absurd h h1)
  refine J_seq ?_
  refine J_region ?_
  refine L_v (opv_move rfl) rfl ?_
  refine L_v (opv_assign rfl) rfl ?_
  refine L_nil ?_
  refine K_then ?_
  refine J_ret ?_
  refine K_then_ret ?_
  exact K_ret1 rfl rfl () trivial (rfl) (Ent.trans Ent.take (RLineP.fold x.1 x.2))

theorem Offer_any (p : Nat) (q : List Sn) (cur free now id : Int) (text : ByteArray) (hf : 0 ≤ free ∧ free ≤ 2000000000000000000) (hs : (text.size : Int) ≤ 2000000000000000000) : FSpec Try.prog 19 #[.pointer (some (ad p 0)), .int .i64 now, .int .i64 id, .string text] (LineP p q cur free) (fun _ : Unit => True)
    (fun _ => .int .i64 (offer q cur free now id text).1) (fun _ => LineP p (offer q cur free now id text).2.1 (offer q cur free now id text).2.2.1 (offer q cur free now id text).2.2.2) := by
  by_cases h : tim cur now = 0
  · have hb : 0 ≤ now ∧ now ≤ 1125899906842624 := by
      unfold tim at h
      split at h
      · cases h
      · omega
    exact Offer_spec p q cur free now id text hf (by omega)
  · rw [offer_a h]
    exact Offer_err p q cur free now id text h

theorem ROffer_any (p : Nat) (q : List Sn) (cur free now id : Int) (text : ByteArray) (hf : 0 ≤ free ∧ free ≤ 2000000000000000000) (hs : (text.size : Int) ≤ 2000000000000000000) : FSpec Try.prog 23 #[.pointer (some (ad p 0)), .int .i64 now, .int .i64 id, .string text] (RLineP p q cur free) (fun _ : Unit => True)
    (fun _ => .int .i64 (offer q cur free now id text).1) (fun _ => RLineP p (offer q cur free now id text).2.1 (offer q cur free now id text).2.2.1 (offer q cur free now id text).2.2.2) := by
  by_cases h : tim cur now = 0
  · have hb : 0 ≤ now ∧ now ≤ 1125899906842624 := by
      unfold tim at h
      split at h
      · cases h
      · omega
    exact ROffer_spec p q cur free now id text hf (by omega) hs
  · rw [offer_a h]
    exact ROffer_err p q cur free now id text h


def passG (q : List Sn) (cur now : Int) : List Sn := if tim cur now = 0 then q.take (fst q now) else []
def passQ (q : List Sn) (cur now : Int) : List Sn := if tim cur now = 0 then q.drop (fst q now) else q
def passC (cur now : Int) : Int := if tim cur now = 0 then now else cur
/-- A wire behind a Pass, whatever it answered. -/
def GoneE (p : Nat) (x : Option Addr × Nat) (g q : List Sn) (cur free : Int) : HProp := ex fun c : Bool => match c with
  | true => (sep (lift (x = (none, 0) ∧ g = [])) (LineP p q cur free))
  | false => GoneP p x g q cur free
theorem GoneE.forget {p : Nat} {x : Option Addr × Nat} {g q : List Sn} {cur free : Int} : Ent (GoneE p x g q cur free) (LineP p q cur free) := by
  rintro h ⟨c, hc⟩
  cases c with
  | true => exact Ent.drop h hc
  | false => exact GoneP.forget h hc
theorem GoneE.caseof {p : Nat} {x : Option Addr × Nat} {g q : List Sn} {cur free : Int} {R P : HProp} {σ w : World} [h : Take P (GoneE p x g q cur free) R] (hs : Sat σ w P) : (x = (none, 0) ∧ g = []) ∨ ∃ b o, x = (some (ad b o), g.length) := by
  rw [h.eq] at hs
  obtain ⟨c, hc⟩ := sat_ex.1 hs
  cases c with
  | true =>
    simp only [sep_assoc] at hc
    exact .inl (sat_lift.1 hc).1
  | false => exact GoneP.some (p := p) (x := x) (g := g) (q := q) (cur := cur) (free := free) hc
theorem GoneE.reads {p : Nat} {x : Option Addr × Nat} {g q : List Sn} {cur free : Int} {R P : HProp} [h : Take P (GoneE p x g q cur free) R] {b o : Nat} (hx : x.1 = some (ad b o)) {i j : Nat} {y : Sn} {u : Value} (hi : g[i]? = some y) (hj : (enc y)[j]? = some u) : Rd P b (o + i * 4 + j) u := by
  unfold Rd
  intro σ w hs
  rw [h.eq] at hs
  obtain ⟨c, hc⟩ := sat_ex.1 hs
  cases c with
  | true =>
    simp only [sep_assoc] at hc
    obtain ⟨⟨_, rfl⟩, _⟩ := sat_lift.1 hc
    simp at hi
  | false =>
    have := GoneP.reads (P := (sep (GoneP p x g q cur free) (R))) (p := p) (x := x) (g := g) (q := q) (cur := cur) (free := free) hx hi hj
    unfold Rd at this
    exact this σ w hc
theorem Pass_any (p : Nat) (q : List Sn) (cur free now : Int) (hq : q.length ≤ 9000000000000000000) : FSpec Try.prog 20 #[.pointer (some (ad p 0)), .int .i64 now] (LineP p q cur free) (fun _ : Option Addr × Nat => True)
    (fun x => .tuple #[.slice x.1 (passG q cur now).length x.2, .int .i64 (tim cur now)]) (fun x => GoneE p x (passG q cur now) (passQ q cur now) (passC cur now) free) := by
  by_cases h : tim cur now = 0
  · rw [passG, passQ, passC, if_pos h, if_pos h, if_pos h, h]
    exact (Pass_ok p q cur free now h hq).conseq (Ent.refl _) fun x _ => ⟨x, trivial, rfl, Ent.exo (f := fun c : Bool => match c with
      | true => (sep (lift (x = (none, 0) ∧ q.take (fst q now) = [])) (LineP p (q.drop (fst q now)) now free))
      | false => GoneP p x (q.take (fst q now)) (q.drop (fst q now)) now free) false⟩
  · rw [passG, passQ, passC, if_neg h, if_neg h, if_neg h]
    exact (Pass_err p q cur free now h).conseq (Ent.refl _) fun _ _ => ⟨(none, 0), trivial, rfl, Ent.trans (Ent.lift ⟨rfl, rfl⟩) (Ent.exo (f := fun c : Bool => match c with
      | true => (sep (lift (((none, 0) : Option Addr × Nat) = (none, 0) ∧ ([] : List Sn) = [])) (LineP p q cur free))
      | false => GoneP p (none, 0) [] q cur free) true)⟩
def Up (q : List Sn) : Prop := q.Pairwise fun a b => a.e ≤ b.e
theorem up_split : ∀ {q : List Sn} (now : Int), Up q → q.take (fst q now) = (q.filter fun a => decide (a.e ≤ now)) ∧ q.drop (fst q now) = q.filter fun a => !decide (a.e ≤ now)
  | [], _, _ => ⟨rfl, rfl⟩
  | x :: q, now, h => by
    have h1 : ∀ {a : Sn}, a ∈ q → x.e ≤ a.e := fun ha => List.rel_of_pairwise_cons h ha
    have ih := up_split now (List.Pairwise.of_cons h)
    by_cases hx : now < x.e
    · have e : fst (x :: q) now = 0 := by unfold fst; rw [List.findIdx_cons]; simp [hx]
      have a1 : (q.filter fun a => decide (a.e ≤ now)) = [] := by
        rw [List.filter_eq_nil_iff]
        intro a ha
        have := h1 ha
        simp only [decide_eq_true_eq]
        omega
      have a2 : (q.filter fun a => !decide (a.e ≤ now)) = q := by
        rw [List.filter_eq_self]
        intro a ha
        have := h1 ha
        simp only [Bool.not_eq_true', decide_eq_false_iff_not]
        omega
      rw [e, List.filter_cons, List.filter_cons, a1, a2, if_neg (by simp only [decide_eq_true_eq]; omega), if_pos (by simp only [Bool.not_eq_true', decide_eq_false_iff_not]; omega)]
      exact ⟨rfl, rfl⟩
    · have e : fst (x :: q) now = fst q now + 1 := by unfold fst; rw [List.findIdx_cons]; simp [hx]
      rw [e, List.filter_cons, List.filter_cons, if_pos (by simp only [decide_eq_true_eq]; omega), if_neg (by simp only [Bool.not_eq_true', decide_eq_false_iff_not]; omega), List.take_succ_cons, List.drop_succ_cons, ih.1, ih.2]
      exact ⟨rfl, rfl⟩
theorem RPass_any (r : Nat) (q : List Sn) (cur free now : Int) (hup : Up q) (hq : q.length ≤ 1000000000) : FSpec Try.prog 22 #[.pointer (some (ad r 0)), .int .i64 now] (RLineP r q cur free) (fun _ : Option Addr × Nat => True)
    (fun z => .tuple #[.slice z.1 (passG q cur now).length z.2, .int .i64 (tim cur now)]) (fun z => (sep (Own 48 4 (.slice z.1 (passG q cur now).length z.2) (passG q cur now).length (flat (passG q cur now))) (RLineP r (passQ q cur now) (passC cur now) free))) := by
  by_cases h : tim cur now = 0
  · rw [passG, passQ, passC, if_pos h, if_pos h, if_pos h, h, (up_split now hup).1, (up_split now hup).2]
    exact RPass_ok r q cur free now h hq
  · rw [passG, passQ, passC, if_neg h, if_neg h, if_neg h]
    exact (RPass_err r q cur free now h).conseq (Ent.refl _) fun _ _ => ⟨(none, 0), trivial, rfl, Ent.trans (Ent.of (emp_sep _).symm) ((Own.nil 48 4).frame _)⟩
structure Inv (k : Nat) (q : List Sn) (cur free : Int) : Prop where
  up : Up q
  le : ∀ x ∈ q, x.e ≤ free
  len : q.length ≤ k
  c0 : 0 ≤ cur
  f0 : 0 ≤ free
  f1 : free ≤ 1125899906842624 + 1538 * k
theorem tim_0 {cur now : Int} (h : tim cur now = 0) : 0 ≤ now ∧ now ≤ 1125899906842624 := by
  unfold tim at h
  split at h
  · cases h
  · omega
theorem Inv.pass {k : Nat} {q : List Sn} {cur free : Int} (h : Inv k q cur free) (now : Int) : Inv (k + 1) (passQ q cur now) (passC cur now) free := by
  have hf := h.f1
  have hl := h.len
  unfold passQ passC
  by_cases ht : tim cur now = 0
  · rw [if_pos ht, if_pos ht]
    exact ⟨h.up.sublist (List.drop_sublist _ _), fun x hx => h.le x (List.mem_of_mem_drop hx), by rw [List.length_drop]; omega, (tim_0 ht).1, h.f0, by omega⟩
  · rw [if_neg ht, if_neg ht]
    exact ⟨h.up, h.le, by omega, h.c0, h.f0, by omega⟩
theorem Inv.offer {k : Nat} {q : List Sn} {cur free : Int} (h : Inv k q cur free) (now id : Int) (text : ByteArray) : Inv (k + 1) (offer q cur free now id text).2.1 (offer q cur free now id text).2.2.1 (offer q cur free now id text).2.2.2 := by
  have hf := h.f1
  have hf0 := h.f0
  have hl := h.len
  have same : Inv (k + 1) q cur free := ⟨h.up, h.le, by omega, h.c0, h.f0, by omega⟩
  by_cases h1 : tim cur now ≠ 0
  · rw [offer_a h1]; exact same
  by_cases h2 : 1518 < (text.size : Int)
  · rw [offer_b h1 h2]; exact same
  by_cases h3 : 4096 ≤ (q.length : Int)
  · rw [offer_c h1 h2 h3]; exact same
  rw [offer_d h1 h2 h3]
  have ht := tim_0 (Classical.not_not.1 h1)
  have hm : free ≤ (if free > now then free else now) ∧ (if free > now then free else now) ≤ 1125899906842624 + 1538 * k := by split <;> omega
  refine ⟨?_, ?_, by rw [List.length_append]; simp only [List.length_cons, List.length_nil]; omega, ht.1, by dsimp only; omega, by dsimp only; omega⟩
  · refine List.pairwise_append.2 ⟨h.up, List.pairwise_singleton _ _, fun a ha b hb => ?_⟩
    simp only [List.mem_singleton] at hb
    subst hb
    have := h.le a ha
    dsimp only
    omega
  · intro x hx
    rcases List.mem_append.1 hx with hx | hx
    · have := h.le x hx
      dsimp only
      omega
    · simp only [List.mem_singleton] at hx
      subst hx
      exact Int.le_refl _
theorem passG_len (q : List Sn) (cur now : Int) : (passG q cur now).length ≤ q.length := by
  unfold passG
  split
  · exact List.length_take_le' _ _
  · exact Nat.zero_le _
structure PS where
  k : Nat
  q : List Sn
  cur : Int
  free : Int

theorem MuxPlays_ok (W : World) (A : Option Addr) (c : Nat) (xs : List OpM) (hR : RdS (old W) encOp 4 A xs) (hn : xs.length ≤ 9223372036854775807) : FSpec Try.prog 7 #[.slice A xs.length c] (old W) (fun _ : Unit => True) (fun _ => .bool true) (fun _ => old W) := by
  refine FSpec.enter' Try.func7 rfl Try.ntmps7 rfl fun σ F => ?_
  refine J_seq ?_
  refine J_region ?_
  refine L_v (opv_assign rfl) rfl ?_
  refine L_nil ?_
  refine K_then ?_
  refine J_seq ?_
  refine J_region ?_
  refine L_x rfl (opx_call0 (New_spec) rfl rfl rfl) (fun p _ => ?_)
  refine L_v (opv_assign rfl) rfl ?_
  refine L_nil ?_
  refine K_then ?_
  refine J_seq ?_
  refine J_region ?_
  refine L_v (opv_build rfl) rfl ?_
  refine L_x rfl (opx_box rfl rfl) (fun b14 _ => ?_)
  refine L_v (opv_assign rfl) rfl ?_
  refine L_nil ?_
  refine K_then ?_
  refine J_seq ?_
  refine J_seq ?_
  refine J_region ?_
  refine L_v (opv_move rfl) rfl ?_
  first
    | refine L_v (opv_eql rfl rfl) rfl ?_
    | refine L_v (opv_eqlS rfl rfl) rfl ?_
    | refine L_v (opv_eqlNil rfl rfl) rfl ?_
    | refine L_v (opv_eqlB rfl rfl) rfl ?_
  refine L_nil ?_
  refine K_then ?_
  refine J_cond_false rfl ?_
  refine J_skip ?_
  refine K_then ?_
  refine J_seq ?_
  refine J_seq ?_
  refine J_region ?_
  refine L_v (opv_assign rfl) rfl ?_
  refine L_nil ?_
  refine K_then ?_
  refine J_block ?_
  refine J_loop (X := PS) (fun y => [(0, .slice A xs.length c), (3, .pointer (some (ad p 0))), (4, .pointer (some (ad b14 0))), (5, .int .i64 y.k)]) (fun y => (sep (RLineP b14 y.q y.cur y.free) (sep (LineP p y.q y.cur y.free) (sep (old W) (F))))) (fun y => y.k ≤ xs.length ∧ y.k ≤ 100 ∧ Inv y.k y.q y.cur y.free) (fun y => xs.length - y.k) (⟨0, [], 0, 0⟩) ⟨Nat.zero_le _, Nat.zero_le _, ⟨List.Pairwise.nil, fun x hx => by simp at hx, Nat.le_refl _, Int.le_refl _, Int.le_refl _, by simp⟩⟩ ⟨rfl, rfl, rfl, rfl, trivial⟩ (Ent.trans (Ent.frame_left (Ent.trans (Ent.of (emp_sep _).symm) ((Own.nil 48 4).frame _)) _) (RLineP.fold (q := []) none 0)) (fun y hy => ?_)
  obtain ⟨hk, hk2, hi⟩ := hy
  refine J_seq ?_
  refine J_seq ?_
  refine J_region ?_
  refine L_v (opv_move rfl) rfl ?_
  refine L_v (opv_move rfl) rfl ?_
  first
    | refine L_v (opv_lenL rfl) rfl ?_
    | refine L_v (opv_lenS rfl) rfl ?_
  refine L_v (opv_lss rfl rfl) rfl ?_
  refine L_v (opv_move rfl) rfl ?_
  refine L_gt rfl rfl (fun h1 => ?_) (fun h1 => ?_) (fun _ h => by cases h; rfl)
  · refine L_v (opv_move rfl) rfl ?_
    refine L_gt_on h1 rfl rfl ?_
    refine L_v (opv_lss rfl rfl) rfl ?_
    refine L_v (opv_pick_t rfl h1 rfl) rfl ?_
    refine L_nil ?_
    refine K_then ?_
    refine J_cond rfl (fun h2 => ?_) (fun h2 => ?_)
    · have hkl : y.k < xs.length := by omega
      obtain ⟨x, hx⟩ : ∃ x, xs[y.k]? = some x := ⟨_, List.getElem?_eq_getElem hkl⟩
      obtain ⟨b, o, rfl⟩ := hR.nonnil y.k hkl
      have i1 := hi.up
      have i2 := hi.len
      have i3 := hi.f0
      have i4 := hi.f1
      have i5 := hi.c0
      refine J_skip ?_
      refine K_then ?_
      refine J_seq ?_
      refine J_block ?_
      refine J_seq ?_
      refine J_region ?_
      refine L_v (opv_move rfl) rfl ?_
      refine L_v (opv_move rfl) rfl ?_
      first
        | refine L_v (opv_indexAddr rfl rfl (by omega)) rfl ?_
        | refine L_v (opv_indexAddrA rfl rfl (by omega)) rfl ?_
      refine L_v (opv_loadN (vs := [.bool x.pass, .int .i64 x.now, .int .i64 x.id, .string x.text]) rfl rfl (fun j u hj => Rd.of_take (S := old W) (hR.rd b o rfl y.k x j u hx hj))) rfl ?_
      refine L_x rfl (opx_alloc rfl) (fun b6 _ => ?_)
      refine L_x rfl (opx_store rfl rfl rfl (by simp [Value.oneCell'])) (fun _ _ => ?_)
      refine L_nil ?_
      refine K_then ?_
      refine J_seq ?_
      refine J_seq ?_
      refine J_region ?_
      first
        | refine L_v (opv_fieldAddr0 rfl) rfl ?_
        | refine L_v (opv_fieldAddr rfl) rfl ?_
      refine L_v (opv_load rfl (Rd.look rfl)) rfl ?_
      first
        | refine L_v (opv_lenL rfl) rfl ?_
        | refine L_v (opv_lenS rfl) rfl ?_
      refine L_v (opv_gtr rfl rfl) rfl ?_
      refine L_nil ?_
      refine K_then ?_
      refine J_cond rfl (fun h3 => ?_) (fun h3 => ?_)
      · refine J_seq ?_
        refine J_region ?_
        refine L_x rfl (opx_call0 (awake_spec) rfl rfl rfl) (fun _ _ => ?_)
        refine L_emp ?_
        refine L_v (opv_assign rfl) rfl ?_
        refine L_nil ?_
        refine K_then ?_
        refine J_ret ?_
        refine K_then_ret ?_
        refine K_block_ret ?_
        refine K_then_ret ?_
        refine K_then_ret ?_
        refine K_block_ret ?_
        refine K_then_ret ?_
        exact K_ret1 rfl rfl () trivial (rfl) (Ent.trans Ent.take (Ent.refl _))
      · refine J_skip ?_
        refine K_then ?_
        refine J_cut (X := List Sn × Int × Int) (fun s => [(0, .slice (some (ad b o)) xs.length c), (3, .pointer (some (ad p 0))), (4, .pointer (some (ad b14 0))), (5, .int .i64 y.k), (6, .pointer (some (ad b6 0)))]) (fun s => (sep (RLineP b14 s.1 s.2.1 s.2.2) (sep (LineP p s.1 s.2.1 s.2.2) (sep (cel b6 [.bool x.pass, .int .i64 x.now, .int .i64 x.id, .string x.text] 33) (sep (old W) (F)))))) (fun s => Inv (y.k + 1) s.1 s.2.1 s.2.2) ?_ (fun s hs => ?_)
        · refine J_seq ?_
          refine J_region ?_
          first
            | refine L_v (opv_fieldAddr0 rfl) rfl ?_
            | refine L_v (opv_fieldAddr rfl) rfl ?_
          refine L_v (opv_load rfl (Rd.look rfl)) rfl ?_
          refine L_nil ?_
          refine K_then ?_
          refine J_cond_bool rfl (fun h4 => ?_) (fun h4 => ?_)
          · refine J_seq ?_
            refine J_region ?_
            refine L_v (opv_move rfl) rfl ?_
            first
              | refine L_v (opv_fieldAddr0 rfl) rfl ?_
              | refine L_v (opv_fieldAddr rfl) rfl ?_
            refine L_v (opv_load rfl (Rd.look rfl)) rfl ?_
            refine L_x rfl (opx_call0 (Pass_any p y.q y.cur y.free x.now (by omega)) rfl rfl rfl) (fun x7 _ => ?_)
            refine L_v (opv_move rfl) rfl ?_
            refine L_v (opv_extract rfl rfl) rfl ?_
            refine L_v (opv_extract rfl rfl) rfl ?_
            refine L_v (opv_assign rfl) rfl ?_
            refine L_v (opv_assign rfl) rfl ?_
            refine L_nil ?_
            refine K_then ?_
            refine J_seq ?_
            refine J_region ?_
            refine L_v (opv_move rfl) rfl ?_
            first
              | refine L_v (opv_fieldAddr0 rfl) rfl ?_
              | refine L_v (opv_fieldAddr rfl) rfl ?_
            refine L_v (opv_load rfl (Rd.look rfl)) rfl ?_
            refine L_x rfl (opx_call0 (RPass_any b14 y.q y.cur y.free x.now i1 (by omega)) rfl rfl rfl) (fun z _ => ?_)
            refine L_v (opv_move rfl) rfl ?_
            refine L_v (opv_extract rfl rfl) rfl ?_
            refine L_v (opv_extract rfl rfl) rfl ?_
            refine L_v (opv_assign rfl) rfl ?_
            refine L_v (opv_assign rfl) rfl ?_
            refine L_nil ?_
            refine K_then ?_
            refine J_seq ?_
            refine J_seq ?_
            refine J_region ?_
            refine L_v (opv_move rfl) rfl ?_
            refine L_v (opv_move rfl) rfl ?_
            refine L_v ((opv_neq rfl rfl).bool_f (fun h => h rfl)) rfl ?_
            refine L_v (opv_move rfl) rfl ?_
            refine L_gon rfl rfl rfl ?_
            refine L_v (opv_move rfl) rfl ?_
            refine L_gon rfl rfl rfl ?_
            first
              | refine L_v (opv_lenL rfl) rfl ?_
              | refine L_v (opv_lenS rfl) rfl ?_
            refine L_gon rfl rfl rfl ?_
            refine L_v (opv_move rfl) rfl ?_
            refine L_gon rfl rfl rfl ?_
            first
              | refine L_v (opv_lenL rfl) rfl ?_
              | refine L_v (opv_lenS rfl) rfl ?_
            refine L_gon rfl rfl rfl ?_
            refine L_v ((opv_neq rfl rfl).bool_f (fun h => h rfl)) rfl ?_
            first
              | refine L_v (opv_pick_tt rfl rfl) rfl ?_
              | refine L_v (opv_pick_ff rfl rfl) rfl ?_
              | refine L_v (opv_pick rfl rfl rfl) rfl ?_
            refine L_nil ?_
            refine K_then ?_
            refine J_cond_false rfl ?_
            refine J_skip ?_
            refine K_then ?_
            refine J_seq ?_
            obtain ⟨A3, c3⟩ := z
            refine J_imp (sep (GoneE p x7 (passG y.q y.cur x.now) (passQ y.q y.cur x.now) (passC y.cur x.now) y.free) (sep (Own 48 4 (.slice A3 (passG y.q y.cur x.now).length c3) (passG y.q y.cur x.now).length (flat (passG y.q y.cur x.now))) (sep (RLineP b14 (passQ y.q y.cur x.now) (passC y.cur x.now) y.free) (sep (cel b6 [.bool x.pass, .int .i64 x.now, .int .i64 x.id, .string x.text] 33) (sep (old W) (F)))))) ?_ ?_
            · exact Ent.take
            refine J_know (fun w hs => GoneE.caseof (p := p) (x := x7) (g := (passG y.q y.cur x.now)) (q := (passQ y.q y.cur x.now)) (cur := (passC y.cur x.now)) (free := y.free) hs) fun hx7 => ?_
            refine J_know (fun w hs => own_nonnil hs.drop) fun hA3 => ?_
            refine J_region ?_
            refine L_v (opv_assign rfl) rfl ?_
            refine L_nil ?_
            refine K_then ?_
            refine J_block ?_
            refine J_loop (X := Nat) (fun i => [(0, .slice (some (ad b o)) xs.length c), (3, .pointer (some (ad p 0))), (4, .pointer (some (ad b14 0))), (5, .int .i64 y.k), (6, .pointer (some (ad b6 0))), (7, .slice x7.1 (passG y.q y.cur x.now).length x7.2), (9, .slice A3 (passG y.q y.cur x.now).length c3), (11, .int .i64 i)]) (fun i => (sep (GoneE p x7 (passG y.q y.cur x.now) (passQ y.q y.cur x.now) (passC y.cur x.now) y.free) (sep (Own 48 4 (.slice A3 (passG y.q y.cur x.now).length c3) (passG y.q y.cur x.now).length (flat (passG y.q y.cur x.now))) (sep (RLineP b14 (passQ y.q y.cur x.now) (passC y.cur x.now) y.free) (sep (cel b6 [.bool x.pass, .int .i64 x.now, .int .i64 x.id, .string x.text] 33) (sep (old W) (F))))))) (fun i => i ≤ (passG y.q y.cur x.now).length) (fun i => (passG y.q y.cur x.now).length - i) (0) (Nat.zero_le _) ⟨rfl, rfl, rfl, rfl, rfl, rfl, rfl, rfl, trivial⟩ Ent.take (fun i hil => ?_)
            refine J_seq ?_
            refine J_seq ?_
            refine J_region ?_
            refine L_v (opv_move rfl) rfl ?_
            refine L_v (opv_move rfl) rfl ?_
            first
              | refine L_v (opv_lenL rfl) rfl ?_
              | refine L_v (opv_lenS rfl) rfl ?_
            refine L_v (opv_lss rfl rfl) rfl ?_
            refine L_nil ?_
            refine K_then ?_
            refine J_cond rfl (fun h5 => ?_) (fun h5 => ?_)
            · have hgle := passG_len y.q y.cur x.now
              have hgl : i < (passG y.q y.cur x.now).length := by omega
              obtain ⟨s, hs⟩ : ∃ s, (passG y.q y.cur x.now)[i]? = some s := ⟨_, List.getElem?_eq_getElem hgl⟩
              obtain ⟨bb, oo, rfl⟩ : ∃ bb oo, x7 = (some (ad bb oo), (passG y.q y.cur x.now).length) := by rcases hx7 with ⟨_, h⟩ | h; rw [h] at hgl; simp at hgl; exact h
              obtain ⟨b3, o3, rfl⟩ : ∃ b o, A3 = some (ad b o) := by rcases hA3 with ⟨_, _, h, _⟩ | h; omega; exact h
              refine J_skip ?_
              refine K_then ?_
              refine J_seq ?_
              refine J_block ?_
              refine J_seq ?_
              refine J_quiet Try.mixed (by kernel_rfl) ?_
              refine Q_v (opv_move rfl) rfl ?_
              refine Q_v (opv_move rfl) rfl ?_
              first
                | refine Q_v (opv_indexAddr rfl rfl (by omega)) rfl ?_
                | refine Q_v (opv_indexAddrA rfl rfl (by omega)) rfl ?_
              first
                | refine Q_v (opv_fieldAddr0 rfl) rfl ?_
                | refine Q_v (opv_fieldAddr rfl) rfl ?_
              refine Q_v (opv_load rfl (GoneE.reads (p := p) (x := (some (ad bb oo), (passG y.q y.cur x.now).length)) (g := (passG y.q y.cur x.now)) (q := (passQ y.q y.cur x.now)) (cur := (passC y.cur x.now)) (free := y.free) (i := i) (j := 0) (y := s) rfl hs rfl)) rfl ?_
              refine Q_v (opv_move rfl) rfl ?_
              refine Q_v (opv_move rfl) rfl ?_
              first
                | refine Q_v (opv_indexAddr rfl rfl (by omega)) rfl ?_
                | refine Q_v (opv_indexAddrA rfl rfl (by omega)) rfl ?_
              first
                | refine Q_v (opv_fieldAddr0 rfl) rfl ?_
                | refine Q_v (opv_fieldAddr rfl) rfl ?_
              refine Q_v (opv_load rfl (Rd.of_take (S := Own 48 4 (.slice (some (ad b3 o3)) (passG y.q y.cur x.now).length c3) (passG y.q y.cur x.now).length (flat (passG y.q y.cur x.now))) ((RdS.own (m := 4) (e := 48) (c := c3) enc_len (.inr ⟨b3, o3, rfl⟩)).rd b3 o3 rfl i s 0 _ hs rfl))) rfl ?_
              refine Q_v ((opv_neq rfl rfl).bool_f (fun h => h rfl)) rfl ?_
              refine Q_v (opv_move rfl) rfl ?_
              refine Q_gon rfl rfl rfl ?_
              refine Q_v (opv_move rfl) rfl ?_
              refine Q_gon rfl rfl rfl ?_
              refine Q_v (opv_move rfl) rfl ?_
              refine Q_gon rfl rfl rfl ?_
              first
                | refine Q_v (opv_indexAddr rfl rfl (by omega)) rfl ?_
                | refine Q_v (opv_indexAddrA rfl rfl (by omega)) rfl ?_
              refine Q_gon rfl rfl rfl ?_
              first
                | refine Q_v (opv_fieldAddr0 rfl) rfl ?_
                | refine Q_v (opv_fieldAddr rfl) rfl ?_
              refine Q_gon rfl rfl rfl ?_
              refine Q_v (opv_load rfl (GoneE.reads (p := p) (x := (some (ad bb oo), (passG y.q y.cur x.now).length)) (g := (passG y.q y.cur x.now)) (q := (passQ y.q y.cur x.now)) (cur := (passC y.cur x.now)) (free := y.free) (i := i) (j := 1) (y := s) rfl hs rfl)) rfl ?_
              refine Q_gon rfl rfl rfl ?_
              refine Q_v (opv_move rfl) rfl ?_
              refine Q_gon rfl rfl rfl ?_
              refine Q_v (opv_move rfl) rfl ?_
              refine Q_gon rfl rfl rfl ?_
              first
                | refine Q_v (opv_indexAddr rfl rfl (by omega)) rfl ?_
                | refine Q_v (opv_indexAddrA rfl rfl (by omega)) rfl ?_
              refine Q_gon rfl rfl rfl ?_
              first
                | refine Q_v (opv_fieldAddr0 rfl) rfl ?_
                | refine Q_v (opv_fieldAddr rfl) rfl ?_
              refine Q_gon rfl rfl rfl ?_
              refine Q_v (opv_load rfl (Rd.of_take (S := Own 48 4 (.slice (some (ad b3 o3)) (passG y.q y.cur x.now).length c3) (passG y.q y.cur x.now).length (flat (passG y.q y.cur x.now))) ((RdS.own (m := 4) (e := 48) (c := c3) enc_len (.inr ⟨b3, o3, rfl⟩)).rd b3 o3 rfl i s 1 _ hs rfl))) rfl ?_
              refine Q_gon rfl rfl rfl ?_
              refine Q_v ((opv_neqS rfl rfl).bool_f (fun h => h rfl)) rfl ?_
              first
                | refine Q_v (opv_pick_tt rfl rfl) rfl ?_
                | refine Q_v (opv_pick_ff rfl rfl) rfl ?_
                | refine Q_v (opv_pick rfl rfl rfl) rfl ?_
              refine Q_v (opv_move rfl) rfl ?_
              refine Q_gon rfl rfl rfl ?_
              refine Q_v (opv_move rfl) rfl ?_
              refine Q_gon rfl rfl rfl ?_
              refine Q_v (opv_move rfl) rfl ?_
              refine Q_gon rfl rfl rfl ?_
              first
                | refine Q_v (opv_indexAddr rfl rfl (by omega)) rfl ?_
                | refine Q_v (opv_indexAddrA rfl rfl (by omega)) rfl ?_
              refine Q_gon rfl rfl rfl ?_
              first
                | refine Q_v (opv_fieldAddr0 rfl) rfl ?_
                | refine Q_v (opv_fieldAddr rfl) rfl ?_
              refine Q_gon rfl rfl rfl ?_
              refine Q_v (opv_load rfl (GoneE.reads (p := p) (x := (some (ad bb oo), (passG y.q y.cur x.now).length)) (g := (passG y.q y.cur x.now)) (q := (passQ y.q y.cur x.now)) (cur := (passC y.cur x.now)) (free := y.free) (i := i) (j := 2) (y := s) rfl hs rfl)) rfl ?_
              refine Q_gon rfl rfl rfl ?_
              refine Q_v (opv_move rfl) rfl ?_
              refine Q_gon rfl rfl rfl ?_
              refine Q_v (opv_move rfl) rfl ?_
              refine Q_gon rfl rfl rfl ?_
              first
                | refine Q_v (opv_indexAddr rfl rfl (by omega)) rfl ?_
                | refine Q_v (opv_indexAddrA rfl rfl (by omega)) rfl ?_
              refine Q_gon rfl rfl rfl ?_
              first
                | refine Q_v (opv_fieldAddr0 rfl) rfl ?_
                | refine Q_v (opv_fieldAddr rfl) rfl ?_
              refine Q_gon rfl rfl rfl ?_
              refine Q_v (opv_load rfl (Rd.of_take (S := Own 48 4 (.slice (some (ad b3 o3)) (passG y.q y.cur x.now).length c3) (passG y.q y.cur x.now).length (flat (passG y.q y.cur x.now))) ((RdS.own (m := 4) (e := 48) (c := c3) enc_len (.inr ⟨b3, o3, rfl⟩)).rd b3 o3 rfl i s 2 _ hs rfl))) rfl ?_
              refine Q_gon rfl rfl rfl ?_
              refine Q_v ((opv_neq rfl rfl).bool_f (fun h => h rfl)) rfl ?_
              first
                | refine Q_v (opv_pick_tt rfl rfl) rfl ?_
                | refine Q_v (opv_pick_ff rfl rfl) rfl ?_
                | refine Q_v (opv_pick rfl rfl rfl) rfl ?_
              refine Q_v (opv_move rfl) rfl ?_
              refine Q_gon rfl rfl rfl ?_
              refine Q_v (opv_move rfl) rfl ?_
              refine Q_gon rfl rfl rfl ?_
              refine Q_v (opv_move rfl) rfl ?_
              refine Q_gon rfl rfl rfl ?_
              first
                | refine Q_v (opv_indexAddr rfl rfl (by omega)) rfl ?_
                | refine Q_v (opv_indexAddrA rfl rfl (by omega)) rfl ?_
              refine Q_gon rfl rfl rfl ?_
              first
                | refine Q_v (opv_fieldAddr0 rfl) rfl ?_
                | refine Q_v (opv_fieldAddr rfl) rfl ?_
              refine Q_gon rfl rfl rfl ?_
              refine Q_v (opv_load rfl (GoneE.reads (p := p) (x := (some (ad bb oo), (passG y.q y.cur x.now).length)) (g := (passG y.q y.cur x.now)) (q := (passQ y.q y.cur x.now)) (cur := (passC y.cur x.now)) (free := y.free) (i := i) (j := 3) (y := s) rfl hs rfl)) rfl ?_
              refine Q_gon rfl rfl rfl ?_
              refine Q_v (opv_move rfl) rfl ?_
              refine Q_gon rfl rfl rfl ?_
              refine Q_v (opv_move rfl) rfl ?_
              refine Q_gon rfl rfl rfl ?_
              first
                | refine Q_v (opv_indexAddr rfl rfl (by omega)) rfl ?_
                | refine Q_v (opv_indexAddrA rfl rfl (by omega)) rfl ?_
              refine Q_gon rfl rfl rfl ?_
              first
                | refine Q_v (opv_fieldAddr0 rfl) rfl ?_
                | refine Q_v (opv_fieldAddr rfl) rfl ?_
              refine Q_gon rfl rfl rfl ?_
              refine Q_v (opv_load rfl (Rd.of_take (S := Own 48 4 (.slice (some (ad b3 o3)) (passG y.q y.cur x.now).length c3) (passG y.q y.cur x.now).length (flat (passG y.q y.cur x.now))) ((RdS.own (m := 4) (e := 48) (c := c3) enc_len (.inr ⟨b3, o3, rfl⟩)).rd b3 o3 rfl i s 3 _ hs rfl))) rfl ?_
              refine Q_gon rfl rfl rfl ?_
              refine Q_v ((opv_neq rfl rfl).bool_f (fun h => h rfl)) rfl ?_
              first
                | refine Q_v (opv_pick_tt rfl rfl) rfl ?_
                | refine Q_v (opv_pick_ff rfl rfl) rfl ?_
                | refine Q_v (opv_pick rfl rfl rfl) rfl ?_
              refine QL_nil ?_
              refine K_then ?_
              refine J_cond_false rfl ?_
              refine J_skip ?_
              refine K_block ?_
              refine K_then ?_
              refine J_region ?_
              refine L_v (opv_move rfl) rfl ?_
              first
                | refine L_v (opv_add64 rfl rfl (by omega)) rfl ?_
                | refine L_v (opv_addS rfl rfl (by omega)) rfl ?_
                | refine L_v (opv_add rfl rfl) rfl ?_
              refine L_v (opv_assign rfl) rfl ?_
              refine L_nil ?_
              exact K_loop (i + 1) (by omega) (by omega) ⟨rfl, rfl, rfl, rfl, rfl, rfl, rfl, rfl, trivial⟩ (Ent.refl _)
            · refine J_exit ?_
              refine K_then_exit ?_
              refine K_then_exit ?_
              refine K_block_here ?_
              exact K_cut ((passQ y.q y.cur x.now), (passC y.cur x.now), y.free) (hi.pass x.now) ⟨rfl, rfl, rfl, rfl, rfl, trivial⟩ (Ent.trans (Ent.swap (GoneE.forget (p := p) (x := x7) (g := (passG y.q y.cur x.now)) (q := (passQ y.q y.cur x.now)) (cur := (passC y.cur x.now)) (free := y.free))) Ent.take)
          · refine J_seq ?_
            refine J_steps (cel b6 [.bool x.pass, .int .i64 x.now, .int .i64 x.id, .string x.text] 33) (cel b6 [.bool x.pass, .int .i64 x.now, .int .i64 x.id, .string x.text] 33) [] Try.mixed ?_
            refine R_pure 0 rfl (by kernel_rfl) (by kernel_rfl) (by kernel_rfl) (by kernel_rfl) (.inr ⟨_, Take.eq (A := cel b6 [.bool x.pass, .int .i64 x.now, .int .i64 x.id, .string x.text] 33)⟩) (opv_move rfl) rfl ?_
            first
              | refine R_pure 1 rfl (by kernel_rfl) (by kernel_rfl) (by kernel_rfl) (by kernel_rfl) (.inr ⟨_, Take.eq (A := cel b6 [.bool x.pass, .int .i64 x.now, .int .i64 x.id, .string x.text] 33)⟩) (opv_fieldAddr0 rfl) rfl ?_
              | refine R_pure 1 rfl (by kernel_rfl) (by kernel_rfl) (by kernel_rfl) (by kernel_rfl) (.inr ⟨_, Take.eq (A := cel b6 [.bool x.pass, .int .i64 x.now, .int .i64 x.id, .string x.text] 33)⟩) (opv_fieldAddr rfl) rfl ?_
            refine R_take 2 rfl (by kernel_rfl) (by kernel_rfl) (by kernel_rfl) (by kernel_rfl) (by kernel_rfl) (opv_load rfl (Rd.look rfl)) rfl ?_
            first
              | refine R_pure 3 rfl (by kernel_rfl) (by kernel_rfl) (by kernel_rfl) (by kernel_rfl) (.inr ⟨_, Take.eq (A := cel b6 [.bool x.pass, .int .i64 x.now, .int .i64 x.id, .string x.text] 33)⟩) (opv_fieldAddr0 rfl) rfl ?_
              | refine R_pure 3 rfl (by kernel_rfl) (by kernel_rfl) (by kernel_rfl) (by kernel_rfl) (.inr ⟨_, Take.eq (A := cel b6 [.bool x.pass, .int .i64 x.now, .int .i64 x.id, .string x.text] 33)⟩) (opv_fieldAddr rfl) rfl ?_
            refine R_take 4 rfl (by kernel_rfl) (by kernel_rfl) (by kernel_rfl) (by kernel_rfl) (by kernel_rfl) (opv_load rfl (Rd.look rfl)) rfl ?_
            first
              | refine R_pure 5 rfl (by kernel_rfl) (by kernel_rfl) (by kernel_rfl) (by kernel_rfl) (.inr ⟨_, Take.eq (A := cel b6 [.bool x.pass, .int .i64 x.now, .int .i64 x.id, .string x.text] 33)⟩) (opv_fieldAddr0 rfl) rfl ?_
              | refine R_pure 5 rfl (by kernel_rfl) (by kernel_rfl) (by kernel_rfl) (by kernel_rfl) (.inr ⟨_, Take.eq (A := cel b6 [.bool x.pass, .int .i64 x.now, .int .i64 x.id, .string x.text] 33)⟩) (opv_fieldAddr rfl) rfl ?_
            refine R_take 6 rfl (by kernel_rfl) (by kernel_rfl) (by kernel_rfl) (by kernel_rfl) (by kernel_rfl) (opv_load rfl (Rd.look rfl)) rfl ?_
            refine R_pure 8 rfl (by kernel_rfl) (by kernel_rfl) (by kernel_rfl) (by kernel_rfl) (.inr ⟨_, Take.eq (A := cel b6 [.bool x.pass, .int .i64 x.now, .int .i64 x.id, .string x.text] 33)⟩) (opv_move rfl) rfl ?_
            first
              | refine R_pure 9 rfl (by kernel_rfl) (by kernel_rfl) (by kernel_rfl) (by kernel_rfl) (.inr ⟨_, Take.eq (A := cel b6 [.bool x.pass, .int .i64 x.now, .int .i64 x.id, .string x.text] 33)⟩) (opv_fieldAddr0 rfl) rfl ?_
              | refine R_pure 9 rfl (by kernel_rfl) (by kernel_rfl) (by kernel_rfl) (by kernel_rfl) (.inr ⟨_, Take.eq (A := cel b6 [.bool x.pass, .int .i64 x.now, .int .i64 x.id, .string x.text] 33)⟩) (opv_fieldAddr rfl) rfl ?_
            refine R_take 10 rfl (by kernel_rfl) (by kernel_rfl) (by kernel_rfl) (by kernel_rfl) (by kernel_rfl) (opv_load rfl (Rd.look rfl)) rfl ?_
            first
              | refine R_pure 11 rfl (by kernel_rfl) (by kernel_rfl) (by kernel_rfl) (by kernel_rfl) (.inr ⟨_, Take.eq (A := cel b6 [.bool x.pass, .int .i64 x.now, .int .i64 x.id, .string x.text] 33)⟩) (opv_fieldAddr0 rfl) rfl ?_
              | refine R_pure 11 rfl (by kernel_rfl) (by kernel_rfl) (by kernel_rfl) (by kernel_rfl) (.inr ⟨_, Take.eq (A := cel b6 [.bool x.pass, .int .i64 x.now, .int .i64 x.id, .string x.text] 33)⟩) (opv_fieldAddr rfl) rfl ?_
            refine R_take 12 rfl (by kernel_rfl) (by kernel_rfl) (by kernel_rfl) (by kernel_rfl) (by kernel_rfl) (opv_load rfl (Rd.look rfl)) rfl ?_
            first
              | refine R_pure 13 rfl (by kernel_rfl) (by kernel_rfl) (by kernel_rfl) (by kernel_rfl) (.inr ⟨_, Take.eq (A := cel b6 [.bool x.pass, .int .i64 x.now, .int .i64 x.id, .string x.text] 33)⟩) (opv_fieldAddr0 rfl) rfl ?_
              | refine R_pure 13 rfl (by kernel_rfl) (by kernel_rfl) (by kernel_rfl) (by kernel_rfl) (.inr ⟨_, Take.eq (A := cel b6 [.bool x.pass, .int .i64 x.now, .int .i64 x.id, .string x.text] 33)⟩) (opv_fieldAddr rfl) rfl ?_
            refine R_take 14 rfl (by kernel_rfl) (by kernel_rfl) (by kernel_rfl) (by kernel_rfl) (by kernel_rfl) (opv_load rfl (Rd.look rfl)) rfl ?_
            refine R_only 7 rfl rfl (by kernel_rfl) (opx_call0 (Offer_any p y.q y.cur y.free x.now x.id x.text (by omega) (by omega)) rfl rfl rfl) (fun _ _ => ⟨_, Take.eq (A := cel b6 [.bool x.pass, .int .i64 x.now, .int .i64 x.id, .string x.text] 33)⟩) (.inr fun _ _ => ⟨_, Take.eq (A := cel b6 [.bool x.pass, .int .i64 x.now, .int .i64 x.id, .string x.text] 33)⟩) (fun _ _ => ?_)
            refine R_only 15 rfl rfl (by kernel_rfl) (opx_call0 (ROffer_any b14 y.q y.cur y.free x.now x.id x.text (by omega) (by omega)) rfl rfl rfl) (fun _ _ => ⟨_, Take.eq (A := cel b6 [.bool x.pass, .int .i64 x.now, .int .i64 x.id, .string x.text] 33)⟩) (.inr fun _ _ => ⟨_, Take.eq (A := cel b6 [.bool x.pass, .int .i64 x.now, .int .i64 x.id, .string x.text] 33)⟩) (fun _ _ => ?_)
            refine R_pure 16 rfl (by kernel_rfl) (by kernel_rfl) (by kernel_rfl) (by kernel_rfl) (.inr ⟨_, Take.eq (A := cel b6 [.bool x.pass, .int .i64 x.now, .int .i64 x.id, .string x.text] 33)⟩) ((opv_neq rfl rfl).bool_f (fun h => h rfl)) rfl ?_
            refine R_done (by kernel_rfl) ?_
            refine K_then ?_
            refine J_cond_false rfl ?_
            refine J_skip ?_
            exact K_cut ((offer y.q y.cur y.free x.now x.id x.text).2.1, (offer y.q y.cur y.free x.now x.id x.text).2.2.1, (offer y.q y.cur y.free x.now x.id x.text).2.2.2) (hi.offer x.now x.id x.text) ⟨rfl, rfl, rfl, rfl, rfl, trivial⟩ Ent.take
        · refine J_seq ?_
          refine J_ex fun z => ?_
          refine J_eq _ (sep_assoc _ _ _) ?_
          refine J_quiet Try.mixed (by kernel_rfl) ?_
          refine Q_v (opv_move rfl) rfl ?_
          refine Q_call (Waits_spec p s.1 s.2.1 s.2.2) rfl rfl (fun _ _ => rfl) (fun _ _ => Ent.refl _) rfl ?_
          refine Q_v (opv_move rfl) rfl ?_
          refine Q_v (opv_nilCheck rfl) rfl ?_
          first
            | refine Q_v (opv_fieldAddr0 rfl) rfl ?_
            | refine Q_v (opv_fieldAddr rfl) rfl ?_
          refine Q_v (opv_load rfl (Rd.look rfl)) rfl ?_
          first
            | refine Q_v (opv_lenL rfl) rfl ?_
            | refine Q_v (opv_lenS rfl) rfl ?_
          refine Q_v ((opv_neq rfl rfl).bool_f (fun h => h rfl)) rfl ?_
          refine Q_v (opv_move rfl) rfl ?_
          refine Q_gon rfl rfl rfl ?_
          refine Q_v (opv_move rfl) rfl ?_
          refine Q_gon rfl rfl rfl ?_
          refine Q_call (Free_spec p s.1 s.2.1 s.2.2) rfl rfl (fun _ _ => rfl) (fun _ _ => Ent.refl _) rfl ?_
          refine Q_gon rfl rfl rfl ?_
          refine Q_v (opv_move rfl) rfl ?_
          refine Q_gon rfl rfl rfl ?_
          refine Q_v (opv_nilCheck rfl) rfl ?_
          refine Q_gon rfl rfl rfl ?_
          first
            | refine Q_v (opv_fieldAddr0 rfl) rfl ?_
            | refine Q_v (opv_fieldAddr rfl) rfl ?_
          refine Q_gon rfl rfl rfl ?_
          refine Q_v (opv_load rfl (Rd.look rfl)) rfl ?_
          refine Q_gon rfl rfl rfl ?_
          refine Q_v ((opv_neq rfl rfl).bool_f (fun h => h rfl)) rfl ?_
          first
            | refine Q_v (opv_pick_tt rfl rfl) rfl ?_
            | refine Q_v (opv_pick_ff rfl rfl) rfl ?_
            | refine Q_v (opv_pick rfl rfl rfl) rfl ?_
          refine Q_v (opv_move rfl) rfl ?_
          refine Q_gon rfl rfl rfl ?_
          first
            | refine Q_v (opv_fieldAddr0 rfl) rfl ?_
            | refine Q_v (opv_fieldAddr rfl) rfl ?_
          refine Q_gon rfl rfl rfl ?_
          refine Q_v (opv_load rfl (Rd.look rfl)) rfl ?_
          refine Q_gon rfl rfl rfl ?_
          first
            | refine Q_v (opv_lenL rfl) rfl ?_
            | refine Q_v (opv_lenS rfl) rfl ?_
          refine Q_gon rfl rfl rfl ?_
          refine Q_call (Ticks_spec (x.text.size : Int) (by omega)) rfl rfl (fun _ _ => rfl) (fun _ _ => Ent.refl _) rfl ?_
          refine Q_gon rfl rfl rfl ?_
          first
            | refine Q_v (opv_fieldAddr0 rfl) rfl ?_
            | refine Q_v (opv_fieldAddr rfl) rfl ?_
          refine Q_gon rfl rfl rfl ?_
          refine Q_v (opv_load rfl (Rd.look rfl)) rfl ?_
          refine Q_gon rfl rfl rfl ?_
          first
            | refine Q_v (opv_lenL rfl) rfl ?_
            | refine Q_v (opv_lenS rfl) rfl ?_
          refine Q_gon rfl rfl rfl ?_
          refine Q_call (RTicks_spec (x.text.size : Int) (by omega)) rfl rfl (fun _ _ => rfl) (fun _ _ => Ent.refl _) rfl ?_
          refine Q_gon rfl rfl rfl ?_
          refine Q_v ((opv_neq rfl rfl).bool_f (fun h => h rfl)) rfl ?_
          first
            | refine Q_v (opv_pick_tt rfl rfl) rfl ?_
            | refine Q_v (opv_pick_ff rfl rfl) rfl ?_
            | refine Q_v (opv_pick rfl rfl rfl) rfl ?_
          refine QL_nil ?_
          refine K_then ?_
          refine J_cond_false rfl ?_
          refine J_skip ?_
          refine K_block ?_
          refine K_then ?_
          refine J_region ?_
          refine L_v (opv_move rfl) rfl ?_
          first
            | refine L_v (opv_add64 rfl rfl (by omega)) rfl ?_
            | refine L_v (opv_addS rfl rfl (by omega)) rfl ?_
            | refine L_v (opv_add rfl rfl) rfl ?_
          refine L_v (opv_assign rfl) rfl ?_
          refine L_nil ?_
          exact K_loop (⟨y.k + 1, s.1, s.2.1, s.2.2⟩) ⟨by show y.k + 1 ≤ _; omega, by show y.k + 1 ≤ _; omega, hs⟩ (by show _ - (y.k + 1) < _; omega) ⟨rfl, rfl, rfl, rfl, trivial⟩ (Ent.trans (Ent.take (Q := (sep (cel b14 [.slice z.1 s.1.length z.2, .int .i64 s.2.1, .int .i64 s.2.2] 45) (sep (Own 48 4 (.slice z.1 s.1.length z.2) s.1.length (flat s.1)) (sep (LineP p s.1 s.2.1 s.2.2) (sep (old W) (F))))))) (RLineP.fold z.1 z.2))
    · refine J_exit ?_
      refine K_then_exit ?_
      refine K_then_exit ?_
      refine K_block_here ?_
      refine K_then ?_
      refine J_seq ?_
      refine J_region ?_
      refine L_x rfl (opx_call0 (awake_spec) rfl rfl rfl) (fun _ _ => ?_)
      refine L_emp ?_
      refine L_v (opv_assign rfl) rfl ?_
      refine L_nil ?_
      refine K_then ?_
      refine J_ret ?_
      exact K_ret1 rfl rfl () trivial (rfl) (Ent.trans Ent.take (Ent.refl _))
  · refine L_gt_off h1 rfl rfl ?_ (fun _ h => by cases h; rfl)
    refine L_v (opv_pick_f rfl h1 rfl) rfl ?_
    refine L_nil ?_
    refine K_then ?_
    refine J_cond_false rfl ?_
    refine J_exit ?_
    refine K_then_exit ?_
    refine K_then_exit ?_
    refine K_block_here ?_
    refine K_then ?_
    refine J_seq ?_
    refine J_region ?_
    refine L_x rfl (opx_call0 (awake_spec) rfl rfl rfl) (fun _ _ => ?_)
    refine L_emp ?_
    refine L_v (opv_assign rfl) rfl ?_
    refine L_nil ?_
    refine K_then ?_
    refine J_ret ?_
    exact K_ret1 rfl rfl () trivial (rfl) (Ent.trans Ent.take (Ent.refl _))


theorem MuxPlays_law (W : World) (A : Option Addr) (len c : Nat) (xs : List OpM) (h : ArrIn W encOp 4 A len xs) (hl : len ≤ c) (hc : c ≤ maxLen) : FSpec Try.prog 7 #[.slice A len c] (old W) (fun _ : Unit => True) (fun _ => .bool true) (fun _ => old W) := by
  have e := h.1
  subst e
  have hn : xs.length ≤ 9223372036854775807 := by unfold maxLen at hc; omega
  exact MuxPlays_ok W A c xs (RdS.old h) hn

end Go.Proofs.Ytpnpdliimidoaaa
namespace Go.Proofs.Ytpnpdliimidoaaa.muxPlays
open Go.ChangeShapes Go.WideShapes Go.ChangeAt Go.RowKit Go.SLA
open Go.ChangeMaps (open_string shut_string)
set_option linter.unusedVariables false
theorem own : ownKnob Try.prog.godebug = none := by kernel_rfl
theorem laidOut : laidOutB Try.prog = true := by kernel_rfl
set_option maxRecDepth 100000 in
theorem lifted (os : Os) (started : os.Started) (H : Type) (enc : TypeId × Value → H) :
    ReturnsInHanded {} Try.checked os 7 .any (Rows.muxPlaysSpec.pre6 enc Try.prog Try.f7 Rows.muxPlaysRow.domain false) (Rows.muxPlaysSpec.post enc Try.prog Try.f7 false true false false) := by
  refine returnsInHanded_of_change_sized (C := Try.checked) own started (by kernel_rfl) Try.func7
    (ChangeSpec.witness6 (enc := enc) (C := Try.checked) false ⟨#[], #[.slice none 0 0], []⟩ 8 (by kernel_rfl) (by kernel_rfl) (by kernel_rfl) (by kernel_rfl)) ?_
  intro W base args ds gs before hval0 hW hcnd hsz0 _
  have hsz : (DataW.weightsEach Try.prog (Try.f7.params.toList ++ Rows.muxPlaysSpec.plain.varTypes Try.prog) (ds ++ gs)).all (· ≤ reachBytes) = true := hsz0
  have hval : ∀ (j : Nat) t v, Try.f7.params[j]? = some t → args[j]? = some v → Value.okWide Try.prog W .any base t v := hval0
  have hW' := hW
  obtain ⟨p, q, hA0, hV, rfl, hfz, hnd⟩ := hW
  have hA : DataW.TrodAll enc Try.prog W 0 (fun _ => true) true Try.f7.params.toList args.toList ds p := hA0
  rw [Try.params7] at hA hval hsz
  obtain ⟨v0, vs0, d0, ds0, p0, q0, hargs, rfl, rfl, h0, r0⟩ := trodAll_cons hA
  obtain ⟨rfl, rfl, rfl⟩ := trodAll_nil r0
  obtain rfl : args = #[v0] := by cases args; simp_all
  obtain ⟨rfl, rfl⟩ := trodVars_none hV
  have k0 := h0
  have lt0 : ∀ x ∈ p0, x.block < W.heap.size := by obtain ⟨m, hm⟩ := k0; exact DataW.trod_lt m _ _ _ hm
  obtain ⟨A0, len0, cap0, xs0, rfl, hl0, hc0, harr0, hok0⟩ := open_arr (D := 3) (ks := ksOp) (en := encOp) (ok := okOp) Try.underlying22 (by kernel_rfl) (by kernel_rfl) (by decide) (fun cs h => decOp cs h) (hval 0 22 v0 rfl rfl) h0
  clear hA0 hval0 hsz0 hsz
  refine (FSpec.law (MuxPlays_law W A0 len0 cap0 xs0 harr0 hl0 hc0)).mono fun e W' ⟨he, bel⟩ => ?_
  subst he
  exact ⟨_, rfl, _, _, _, [], _, [], hW', trodAll_mk1 (shut_bool Try.underlying4 _), (trodAll_cons_mk (Below.trod laidOut (by kernel_rfl) (of_decide_eq_true (by kernel_rfl)) k0 bel lt0) trodAll_mk0), rfl, bel.frame _, fun h => by cases h⟩
theorem over : Rows.muxPlaysRow.holds Try.pinned (OpenSpec.ofChange Rows.muxPlaysSpec) :=
  OpenClaim.holds_of_wide 7 Try.f7 rfl rfl rfl rfl rfl rfl rfl ⟨rfl, rfl, rfl, rfl, rfl⟩ rfl rfl rfl rfl rfl (by kernel_rfl) Try.func7 (by kernel_rfl)
    (of_decide_eq_true (by kernel_rfl)) (by unfold Func.isWrapper; first | (rw [if_pos (by decide +kernel)]; kernel_rfl) | (rw [if_neg (by decide +kernel)]; exact ⟨rfl, rfl⟩))
    (fun os started H enc _ => lifted os started H enc)
end Go.Proofs.Ytpnpdliimidoaaa.muxPlays
namespace Go.Proofs.Ytpnpdliimidoaaa
theorem muxPlays_holds : Rows.MuxPlaysSaid := muxPlays.over
#print axioms muxPlays_holds
end Go.Proofs.Ytpnpdliimidoaaa
namespace Go.Proofs.Ytpnpdliimidoaaa
open Go.SLA
end Go.Proofs.Ytpnpdliimidoaaa
