/- Contracts of functions of the reference of chapter 19, each proved by a walk over its code; they are used by the texts that import this one. -/
import Derived.Test.YtpnpdliimidoaaaQx
import Derived.Test.YtpnpdliimidoaaaMl
import Derived.Test.YtpnpdliimidoaaaH
namespace Go.Proofs.Ytpnpdliimidoaaa
open Go.SLA
set_option maxRecDepth 100000
set_option linter.unusedVariables false
set_option linter.unusedSimpArgs false
attribute [local irreducible] J L K QL Rg FSpec OpV OpX Rd Back
attribute [local irreducible] xs

structure Tx where
  hi : Bool
  id : Int
  tx : ByteArray
def encT (x : Tx) : List Value := [.bool x.hi, .int .i64 x.id, .string x.tx]
theorem encT_len (x : Tx) : (encT x).length = 3 := rfl
abbrev flatT (q : List Tx) : List Value := q.flatMap encT
theorem flatT_len (q : List Tx) : (flatT q).length = q.length * 3 := flat_len encT_len q
theorem flatT_snoc (q : List Tx) (x : Tx) : flatT q ++ encT x = flatT (q ++ [x]) := by simp [flatT]
theorem encT_one (x : Tx) : ∀ u ∈ encT x, u.oneCell' = true := by
  intro u hu
  simp only [encT, List.mem_cons, List.not_mem_nil, or_false] at hu
  rcases hu with rfl | rfl | rfl <;> rfl
theorem flatT_one (q : List Tx) : ∀ u ∈ flatT q, u.oneCell' = true := by
  intro u hu
  obtain ⟨x, _, hx⟩ := List.mem_flatMap.1 hu
  exact encT_one x u hx
def hs (q : List Tx) : List Wt := (q.filter fun x => x.hi).map fun x => ⟨x.id, x.tx⟩
def ls (q : List Tx) : List Wt := (q.filter fun x => !x.hi).map fun x => ⟨x.id, x.tx⟩
theorem hs_app (q r : List Tx) : hs (q ++ r) = hs q ++ hs r := by unfold hs; rw [List.filter_append, List.map_append]
theorem ls_app (q r : List Tx) : ls (q ++ r) = ls q ++ ls r := by unfold ls; rw [List.filter_append, List.map_append]
theorem hs_none {q : List Tx} (h : ∀ x ∈ q, x.hi = false) : hs q = [] := by
  unfold hs
  rw [List.filter_eq_nil_iff.2 (fun x hx => by rw [h x hx]; decide)]
  rfl
/-- What is going, as a list. -/
def QS.gl (s : QS) : List Sn := bif s.b then [s.go] else []
/-- Which one begins next: the place of the one that was found among the first i. -/
def Bst (q : List Tx) (i : Nat) (v : Int) : Prop :=
  (i = 0 ∧ v = -1) ∨ ∃ k : Nat, k < i ∧ v = k ∧ ∃ t, q[k]? = some t ∧ ((t.hi = true ∧ ∀ j u, j < k → q[j]? = some u → u.hi = false) ∨ (t.hi = false ∧ k = 0 ∧ ∀ j u, j < i → q[j]? = some u → u.hi = false))
theorem Bst.zero (q : List Tx) : Bst q 0 (-1) := .inl ⟨rfl, rfl⟩
theorem Bst.first {q : List Tx} {t : Tx} (h : q[0]? = some t) : Bst q 1 0 := by
  refine .inr ⟨0, by omega, rfl, t, h, ?_⟩
  cases ht : t.hi with
  | true => exact .inl ⟨rfl, fun j u hj => by omega⟩
  | false =>
    refine .inr ⟨rfl, rfl, fun j u hj hu => ?_⟩
    obtain rfl : j = 0 := by omega
    rw [h] at hu
    cases hu
    exact ht
theorem Bst.stay {q : List Tx} {i k : Nat} {t u : Tx} (h : Bst q i (k : Int)) (hk : q[k]? = some t) (hu : q[i]? = some u) (hn : u.hi = false ∨ t.hi = true) : Bst q (i + 1) (k : Int) := by
  rcases h with ⟨_, h⟩ | ⟨k', h1, h2, t', h3, h4⟩
  · omega
  · obtain rfl : k = k' := by omega
    rw [hk] at h3
    cases h3
    refine .inr ⟨k, by omega, rfl, t, hk, ?_⟩
    rcases h4 with h4 | ⟨h5, h6, h7⟩
    · exact .inl h4
    · refine .inr ⟨h5, h6, fun j v hj hv => ?_⟩
      rcases (show j < i ∨ j = i by omega) with hj | rfl
      · exact h7 j v hj hv
      · rw [hu] at hv
        cases hv
        rcases hn with hn | hn
        · exact hn
        · rw [h5] at hn; cases hn
theorem Bst.take {q : List Tx} {i k : Nat} {t u : Tx} (h : Bst q i (k : Int)) (hk : q[k]? = some t) (hu : q[i]? = some u) (h1 : u.hi = true) (h2 : t.hi = false) : Bst q (i + 1) (i : Int) := by
  refine .inr ⟨i, by omega, rfl, u, hu, .inl ⟨h1, fun j v hj hv => ?_⟩⟩
  rcases h with ⟨_, h⟩ | ⟨k', g1, g2, t', g3, g4⟩
  · omega
  · obtain rfl : k = k' := by omega
    rw [hk] at g3
    cases g3
    rcases g4 with ⟨g4, _⟩ | ⟨_, _, g7⟩
    · rw [h2] at g4; cases g4
    · exact g7 j v hj hv
/-- The one that is found is the one that begins next. -/
theorem Bst.next {q : List Tx} {k : Nat} {t : Tx} (h : Bst q q.length (k : Int)) (hk : q[k]? = some t) : (t.hi = true ∧ hs q = ⟨t.id, t.tx⟩ :: hs (q.take k ++ q.drop (k + 1)) ∧ ls q = ls (q.take k ++ q.drop (k + 1))) ∨ (t.hi = false ∧ hs q = [] ∧ hs (q.take k ++ q.drop (k + 1)) = [] ∧ ls q = ⟨t.id, t.tx⟩ :: ls (q.take k ++ q.drop (k + 1))) := by
  have hkl := get_lt hk
  have hq : q = q.take k ++ ([t] ++ q.drop (k + 1)) := by
    have := List.drop_eq_getElem_cons hkl
    rw [List.getElem?_eq_getElem hkl] at hk
    simp only [Option.some.injEq] at hk
    rw [hk] at this
    rw [List.singleton_append, ← this, List.take_append_drop]
  rcases h with ⟨_, h⟩ | ⟨k', h1, h2, t', h3, h4⟩
  · omega
  · obtain rfl : k = k' := by omega
    rw [hk] at h3
    cases h3
    rcases h4 with ⟨h5, h6⟩ | ⟨h5, h6, h7⟩
    · refine .inl ⟨h5, ?_, ?_⟩
      · have e : hs (q.take k) = [] := hs_none fun x hx => by
          obtain ⟨j, hj⟩ := List.getElem?_of_mem hx
          have hjk : j < k := by
            have := get_lt hj
            rw [List.length_take] at this
            omega
          rw [List.getElem?_take_of_lt hjk] at hj
          exact h6 j x hjk hj
        conv => lhs; rw [hq]
        rw [hs_app, hs_app, hs_app, e]
        show [] ++ (hs [t] ++ _) = _ :: ([] ++ _)
        unfold hs
        rw [List.filter_cons, if_pos h5]
        rfl
      · conv => lhs; rw [hq]
        rw [ls_app, ls_app, ls_app]
        have e : ls [t] = [] := by unfold ls; rw [List.filter_cons, if_neg (by rw [h5]; decide)]; rfl
        rw [e, List.nil_append]
    · subst h6
      refine .inr ⟨h5, ?_, ?_, ?_⟩
      · exact hs_none fun x hx => by
          obtain ⟨j, hj⟩ := List.getElem?_of_mem hx
          exact h7 j x (get_lt hj) hj
      · rw [List.take_zero, List.nil_append]
        exact hs_none fun x hx => by
          obtain ⟨j, hj⟩ := List.getElem?_of_mem (List.mem_of_mem_drop hx)
          exact h7 j x (get_lt hj) hj
      · conv => lhs; rw [hq]
        rw [List.take_zero, List.nil_append, List.nil_append, ls_app]
        show ls [t] ++ _ = _
        unfold ls
        rw [List.filter_cons, if_pos (by rw [h5]; decide)]
        rfl
theorem Bst.none {q : List Tx} {v : Int} (h : Bst q q.length v) (hv : v < 0) : q = [] := by
  rcases h with ⟨h, _⟩ | ⟨k, _, h, _⟩
  · exact List.eq_nil_of_length_eq_zero h
  · omega
/-- The prefix of an own array. -/
theorem Src.pre {P R : HProp} {e m len c k c' : Nat} {b o : Nat} {l news : List Value} [h : Take P (Own e m (.slice (some (ad b o)) len c) len l) R] (hn : ∀ (j : Nat) (u : Value), news[j]? = some u → l[j]? = some u) : SLA.Src P (.slice (some (ad b o)) k c') k news :=
  .inr ⟨b, o, c', rfl, fun j u hj => Rd.of_take (S := Own e m (.slice (some (ad b o)) len c) len l) (Rd.own (hn j u hj))⟩
/-- The rest of an own array. -/
theorem Src.post {P R : HProp} {e m len c k c' d : Nat} {b o : Nat} {l news : List Value} [h : Take P (Own e m (.slice (some (ad b o)) len c) len l) R] (hn : ∀ (j : Nat) (u : Value), news[j]? = some u → l[d + j]? = some u) : SLA.Src P (.slice (some (ad b (o + d))) k c') k news :=
  .inr ⟨b, o + d, c', rfl, fun j u hj => by rw [Nat.add_assoc]; exact Rd.of_take (S := Own e m (.slice (some (ad b o)) len c) len l) (Rd.own (hn j u hj))⟩
theorem Src.none {P : HProp} {b o c' : Nat} : SLA.Src P (.slice (some (ad b o)) 0 c') 0 [] := .inr ⟨b, o, c', rfl, fun j u hj => by simp at hj⟩
theorem flatT_take (q : List Tx) (k : Nat) : flatT (q.take k) = (flatT q).take (k * 3) := by
  induction q generalizing k with
  | nil => simp [flatT]
  | cons x q ih =>
    cases k with
    | zero => simp [flatT]
    | succ k =>
      show encT x ++ flatT (q.take k) = (encT x ++ flatT q).take ((k + 1) * 3)
      rw [ih, List.take_append, List.take_of_length_le (l := encT x) (by rw [encT_len]; omega), encT_len, show (k + 1) * 3 - 3 = k * 3 by omega]
theorem flatT_drop (q : List Tx) (k : Nat) : flatT (q.drop k) = (flatT q).drop (k * 3) := by
  induction q generalizing k with
  | nil => simp [flatT]
  | cons x q ih =>
    cases k with
    | zero => simp [flatT]
    | succ k =>
      show flatT (q.drop k) = (encT x ++ flatT q).drop ((k + 1) * 3)
      rw [ih, List.drop_append, List.drop_of_length_le (l := encT x) (by rw [encT_len]; omega), encT_len, show (k + 1) * 3 - 3 = k * 3 by omega]
      rfl


/-- The plain wire at r. -/
def RefP (r : Nat) (s : QS) (m0 m1 d0 d1 now : Int) : HProp := ex fun x : List Tx × Hd × Hd × Hd => (sep (lift (hs x.1 = s.h ∧ ls x.1 = s.l)) (sep (cel r [.slice x.2.1.1 x.1.length x.2.1.2, .slice x.2.2.1.1 s.gl.length x.2.2.1.2, .slice x.2.2.2.1 s.out.length x.2.2.2.2, .int .i64 m0, .int .i64 m1, .int .i64 now, .int .i64 d0, .int .i64 d1] 71) (sep (Own 93 3 (.slice x.2.1.1 x.1.length x.2.1.2) x.1.length (flatT x.1)) (sep (Own 48 4 (.slice x.2.2.1.1 s.gl.length x.2.2.1.2) s.gl.length (flat s.gl)) (Own 48 4 (.slice x.2.2.2.1 s.out.length x.2.2.2.2) s.out.length (flat s.out))))))
theorem RefP.fold {r : Nat} {s : QS} {m0 m1 d0 d1 now : Int} {F : HProp} (q : List Tx) (a g o : Hd) (hh : hs q = s.h) (hl : ls q = s.l) : Ent (sep (cel r [.slice a.1 q.length a.2, .slice g.1 s.gl.length g.2, .slice o.1 s.out.length o.2, .int .i64 m0, .int .i64 m1, .int .i64 now, .int .i64 d0, .int .i64 d1] 71) (sep (Own 93 3 (.slice a.1 q.length a.2) q.length (flatT q)) (sep (Own 48 4 (.slice g.1 s.gl.length g.2) s.gl.length (flat s.gl)) (sep (Own 48 4 (.slice o.1 s.out.length o.2) s.out.length (flat s.out)) (F))))) (sep (RefP r s m0 m1 d0 d1 now) (F)) := by
  refine Ent.trans (Ent.lift (p := hs q = s.h ∧ ls q = s.l) ⟨hh, hl⟩) (Ent.trans (Ent.of ?_) (Ent.ex (f := fun x : List Tx × Hd × Hd × Hd => (sep (lift (hs x.1 = s.h ∧ ls x.1 = s.l)) (sep (cel r [.slice x.2.1.1 x.1.length x.2.1.2, .slice x.2.2.1.1 s.gl.length x.2.2.1.2, .slice x.2.2.2.1 s.out.length x.2.2.2.2, .int .i64 m0, .int .i64 m1, .int .i64 now, .int .i64 d0, .int .i64 d1] 71) (sep (Own 93 3 (.slice x.2.1.1 x.1.length x.2.1.2) x.1.length (flatT x.1)) (sep (Own 48 4 (.slice x.2.2.1.1 s.gl.length x.2.2.1.2) s.gl.length (flat s.gl)) (Own 48 4 (.slice x.2.2.2.1 s.out.length x.2.2.2.2) s.out.length (flat s.out))))))) (q, a, g, o)))
  simp only [sep_assoc]

theorem Ttime_cel (r : Nat) (c0 c1 c2 c3 c4 c6 c7 : Value) (cur t : Int) : FSpec Try.prog 49 #[.pointer (some (ad r 0)), .int .i64 t] (cel r [c0, c1, c2, c3, c4, .int .i64 cur, c6, c7] 71) (fun _ : Unit => True) (fun _ => .int .i64 (tim cur t)) (fun _ => cel r [c0, c1, c2, c3, c4, .int .i64 cur, c6, c7] 71) := by
  refine FSpec.enter' Try.func49 rfl Try.ntmps49 rfl fun σ F => ?_
  refine J_seq ?_
  refine J_region ?_
  refine L_v (opv_assign rfl) rfl ?_
  refine L_nil ?_
  refine K_then ?_
  refine J_seq ?_
  refine J_seq ?_
  refine J_region ?_
  refine L_v (opv_move rfl) rfl ?_
  refine L_v (opv_lss rfl rfl) rfl ?_
  refine L_v (opv_move rfl) rfl ?_
  refine L_gf rfl rfl (fun h1 => ?_) (fun h1 => ?_) (fun _ h => by cases h; rfl)
  · refine L_v (opv_move rfl) rfl ?_
    refine L_gf_on h1 rfl rfl ?_
    refine L_v (opv_gtr rfl rfl) rfl ?_
    refine L_v (opv_pick_f rfl h1 rfl) rfl ?_
    refine L_nil ?_
    refine K_then ?_
    refine J_cond rfl (fun h2 => ?_) (fun h2 => ?_)
    · refine J_seq ?_
      refine J_region ?_
      refine L_v (opv_assign rfl) rfl ?_
      refine L_nil ?_
      refine K_then ?_
      refine J_ret ?_
      refine K_then_ret ?_
      exact K_ret1 rfl rfl () trivial (rv (by first | exact (tim_a (by omega)).symm | exact (tim_b (by omega) (by omega) (by omega)).symm | exact (tim_c (by omega) (by omega) (by omega)).symm)) (Ent.refl _)
    · refine J_skip ?_
      refine K_then ?_
      refine J_seq ?_
      refine J_seq ?_
      refine J_region ?_
      refine L_v (opv_move rfl) rfl ?_
      refine L_v (opv_move rfl) rfl ?_
      refine L_v (opv_nilCheck rfl) rfl ?_
      first
        | refine L_v (opv_fieldAddr0 rfl) rfl ?_
        | refine L_v (opv_fieldAddr rfl) rfl ?_
      refine L_v (opv_load rfl (Rd.look rfl)) rfl ?_
      refine L_v (opv_lss rfl rfl) rfl ?_
      refine L_nil ?_
      refine K_then ?_
      refine J_cond rfl (fun h3 => ?_) (fun h3 => ?_)
      · refine J_seq ?_
        refine J_region ?_
        refine L_v (opv_assign rfl) rfl ?_
        refine L_nil ?_
        refine K_then ?_
        refine J_ret ?_
        refine K_then_ret ?_
        exact K_ret1 rfl rfl () trivial (rv (by first | exact (tim_a (by omega)).symm | exact (tim_b (by omega) (by omega) (by omega)).symm | exact (tim_c (by omega) (by omega) (by omega)).symm)) (Ent.refl _)
      · refine J_skip ?_
        refine K_then ?_
        refine J_seq ?_
        refine J_region ?_
        refine L_v (opv_assign rfl) rfl ?_
        refine L_nil ?_
        refine K_then ?_
        refine J_ret ?_
        exact K_ret1 rfl rfl () trivial (rv (by first | exact (tim_a (by omega)).symm | exact (tim_b (by omega) (by omega) (by omega)).symm | exact (tim_c (by omega) (by omega) (by omega)).symm)) (Ent.refl _)
  · refine L_gf_off h1 rfl rfl ?_ (fun _ h => by cases h; rfl)
    refine L_v (opv_pick_t rfl h1 rfl) rfl ?_
    refine L_nil ?_
    refine K_then ?_
    refine J_cond_true rfl ?_
    refine J_seq ?_
    refine J_region ?_
    refine L_v (opv_assign rfl) rfl ?_
    refine L_nil ?_
    refine K_then ?_
    refine J_ret ?_
    refine K_then_ret ?_
    exact K_ret1 rfl rfl () trivial (rv (by first | exact (tim_a (by omega)).symm | exact (tim_b (by omega) (by omega) (by omega)).symm | exact (tim_c (by omega) (by omega) (by omega)).symm)) (Ent.refl _)

theorem Tbegin_cel (r : Nat) (c0 c1 c2 c3 c4 c5 c6 c7 : Value) (t : Int) (w : Tx) (ht : 0 ≤ t ∧ t ≤ 2000000000000000000) (hw : w.tx.size ≤ 1518) : FSpec Try.prog 53 #[.pointer (some (ad r 0)), .int .i64 t, .agg (encT w).toArray] (cel r [c0, c1, c2, c3, c4, c5, c6, c7] 71) (fun b : Nat => True) (fun b => .tuple #[]) (fun b => (sep (cel r [c0, .slice (some (ad b 0)) 1 1, c2, c3, c4, c5, c6, c7] 71) (cel b [.int .i64 w.id, .string w.tx, .int .i64 t, .int .i64 (t + ((w.tx.size : Int) + 20))] 48))) := by
  refine FSpec.enter' Try.func53 rfl Try.ntmps53 rfl fun σ F => ?_
  refine J_seq ?_
  refine J_region ?_
  refine L_x rfl (opx_box (l := [.bool w.hi, .int .i64 w.id, .string w.tx]) rfl rfl) (fun b5 _ => ?_)
  refine L_nil ?_
  refine K_then ?_
  refine J_steps (cel b5 [.bool w.hi, .int .i64 w.id, .string w.tx] 93) ((sep (cel b5 [.bool w.hi, .int .i64 w.id, .string w.tx] 93) (cel r [c0, c1, c2, c3, c4, c5, c6, c7] 71))) [16] Try.mixed ?_
  refine R_pure 0 rfl (by kernel_rfl) (by kernel_rfl) (by kernel_rfl) (by kernel_rfl) (.inr ⟨_, Take.eq (A := (sep (cel b5 [.bool w.hi, .int .i64 w.id, .string w.tx] 93) (cel r [c0, c1, c2, c3, c4, c5, c6, c7] 71)))⟩) (opv_move rfl) rfl ?_
  first
    | refine R_pure 1 rfl (by kernel_rfl) (by kernel_rfl) (by kernel_rfl) (by kernel_rfl) (.inr ⟨_, Take.eq (A := (sep (cel b5 [.bool w.hi, .int .i64 w.id, .string w.tx] 93) (cel r [c0, c1, c2, c3, c4, c5, c6, c7] 71)))⟩) (opv_fieldAddr0 rfl) rfl ?_
    | refine R_pure 1 rfl (by kernel_rfl) (by kernel_rfl) (by kernel_rfl) (by kernel_rfl) (.inr ⟨_, Take.eq (A := (sep (cel b5 [.bool w.hi, .int .i64 w.id, .string w.tx] 93) (cel r [c0, c1, c2, c3, c4, c5, c6, c7] 71)))⟩) (opv_fieldAddr rfl) rfl ?_
  refine R_take 2 rfl (by kernel_rfl) (by kernel_rfl) (by kernel_rfl) (by kernel_rfl) (by kernel_rfl) (opv_load rfl (Rd.look rfl)) rfl ?_
  first
    | refine R_pure 3 rfl (by kernel_rfl) (by kernel_rfl) (by kernel_rfl) (by kernel_rfl) (.inr ⟨_, Take.eq (A := (sep (cel b5 [.bool w.hi, .int .i64 w.id, .string w.tx] 93) (cel r [c0, c1, c2, c3, c4, c5, c6, c7] 71)))⟩) (opv_fieldAddr0 rfl) rfl ?_
    | refine R_pure 3 rfl (by kernel_rfl) (by kernel_rfl) (by kernel_rfl) (by kernel_rfl) (.inr ⟨_, Take.eq (A := (sep (cel b5 [.bool w.hi, .int .i64 w.id, .string w.tx] 93) (cel r [c0, c1, c2, c3, c4, c5, c6, c7] 71)))⟩) (opv_fieldAddr rfl) rfl ?_
  refine R_take 4 rfl (by kernel_rfl) (by kernel_rfl) (by kernel_rfl) (by kernel_rfl) (by kernel_rfl) (opv_load rfl (Rd.look rfl)) rfl ?_
  refine R_pure 5 rfl (by kernel_rfl) (by kernel_rfl) (by kernel_rfl) (by kernel_rfl) (.inr ⟨_, Take.eq (A := (sep (cel b5 [.bool w.hi, .int .i64 w.id, .string w.tx] 93) (cel r [c0, c1, c2, c3, c4, c5, c6, c7] 71)))⟩) (opv_move rfl) rfl ?_
  refine R_pure 6 rfl (by kernel_rfl) (by kernel_rfl) (by kernel_rfl) (by kernel_rfl) (.inr ⟨_, Take.eq (A := (sep (cel b5 [.bool w.hi, .int .i64 w.id, .string w.tx] 93) (cel r [c0, c1, c2, c3, c4, c5, c6, c7] 71)))⟩) (opv_move rfl) rfl ?_
  first
    | refine R_pure 7 rfl (by kernel_rfl) (by kernel_rfl) (by kernel_rfl) (by kernel_rfl) (.inr ⟨_, Take.eq (A := (sep (cel b5 [.bool w.hi, .int .i64 w.id, .string w.tx] 93) (cel r [c0, c1, c2, c3, c4, c5, c6, c7] 71)))⟩) (opv_fieldAddr0 rfl) rfl ?_
    | refine R_pure 7 rfl (by kernel_rfl) (by kernel_rfl) (by kernel_rfl) (by kernel_rfl) (.inr ⟨_, Take.eq (A := (sep (cel b5 [.bool w.hi, .int .i64 w.id, .string w.tx] 93) (cel r [c0, c1, c2, c3, c4, c5, c6, c7] 71)))⟩) (opv_fieldAddr rfl) rfl ?_
  refine R_take 8 rfl (by kernel_rfl) (by kernel_rfl) (by kernel_rfl) (by kernel_rfl) (by kernel_rfl) (opv_load rfl (Rd.look rfl)) rfl ?_
  first
    | refine R_pure 9 rfl (by kernel_rfl) (by kernel_rfl) (by kernel_rfl) (by kernel_rfl) (.inr ⟨_, Take.eq (A := (sep (cel b5 [.bool w.hi, .int .i64 w.id, .string w.tx] 93) (cel r [c0, c1, c2, c3, c4, c5, c6, c7] 71)))⟩) (opv_lenL rfl) rfl ?_
    | refine R_pure 9 rfl (by kernel_rfl) (by kernel_rfl) (by kernel_rfl) (by kernel_rfl) (.inr ⟨_, Take.eq (A := (sep (cel b5 [.bool w.hi, .int .i64 w.id, .string w.tx] 93) (cel r [c0, c1, c2, c3, c4, c5, c6, c7] 71)))⟩) (opv_lenS rfl) rfl ?_
  refine R_only 10 rfl rfl (by kernel_rfl) (opx_call0 (RTicks_spec (w.tx.size : Int) (by omega)) rfl rfl rfl) (fun _ _ => ⟨_, Take.eq (A := cel b5 [.bool w.hi, .int .i64 w.id, .string w.tx] 93)⟩) (.inr fun _ _ => ⟨_, Take.eq (A := (sep (cel b5 [.bool w.hi, .int .i64 w.id, .string w.tx] 93) (cel r [c0, c1, c2, c3, c4, c5, c6, c7] 71)))⟩) (fun _ _ => ?_)
  refine Rg_emp ?_
  first
    | refine R_pure 11 rfl (by kernel_rfl) (by kernel_rfl) (by kernel_rfl) (by kernel_rfl) (.inr ⟨_, Take.eq (A := (sep (cel b5 [.bool w.hi, .int .i64 w.id, .string w.tx] 93) (cel r [c0, c1, c2, c3, c4, c5, c6, c7] 71)))⟩) (opv_add64 rfl rfl (by omega)) rfl ?_
    | refine R_pure 11 rfl (by kernel_rfl) (by kernel_rfl) (by kernel_rfl) (by kernel_rfl) (.inr ⟨_, Take.eq (A := (sep (cel b5 [.bool w.hi, .int .i64 w.id, .string w.tx] 93) (cel r [c0, c1, c2, c3, c4, c5, c6, c7] 71)))⟩) (opv_addS rfl rfl (by omega)) rfl ?_
    | refine R_pure 11 rfl (by kernel_rfl) (by kernel_rfl) (by kernel_rfl) (by kernel_rfl) (.inr ⟨_, Take.eq (A := (sep (cel b5 [.bool w.hi, .int .i64 w.id, .string w.tx] 93) (cel r [c0, c1, c2, c3, c4, c5, c6, c7] 71)))⟩) (opv_add rfl rfl) rfl ?_
  refine R_pure 12 rfl (by kernel_rfl) (by kernel_rfl) (by kernel_rfl) (by kernel_rfl) (.inr ⟨_, Take.eq (A := (sep (cel b5 [.bool w.hi, .int .i64 w.id, .string w.tx] 93) (cel r [c0, c1, c2, c3, c4, c5, c6, c7] 71)))⟩) (opv_build rfl) rfl ?_
  refine R_only 13 rfl rfl (by kernel_rfl) (opx_buildSlice1 (m := 4) rfl rfl (by omega) (by omega) rfl) (fun _ _ => ⟨_, Take.eq (A := cel b5 [.bool w.hi, .int .i64 w.id, .string w.tx] 93)⟩) (.inr fun _ _ => ⟨_, Take.eq (A := (sep (cel b5 [.bool w.hi, .int .i64 w.id, .string w.tx] 93) (cel r [c0, c1, c2, c3, c4, c5, c6, c7] 71)))⟩) (fun b19 _ => ?_)
  refine R_pure 14 rfl (by kernel_rfl) (by kernel_rfl) (by kernel_rfl) (by kernel_rfl) (.inr ⟨_, Take.eq (A := (sep (cel b5 [.bool w.hi, .int .i64 w.id, .string w.tx] 93) (cel r [c0, c1, c2, c3, c4, c5, c6, c7] 71)))⟩) (opv_nilCheck rfl) rfl ?_
  first
    | refine R_pure 15 rfl (by kernel_rfl) (by kernel_rfl) (by kernel_rfl) (by kernel_rfl) (.inr ⟨_, Take.eq (A := (sep (cel b5 [.bool w.hi, .int .i64 w.id, .string w.tx] 93) (cel r [c0, c1, c2, c3, c4, c5, c6, c7] 71)))⟩) (opv_fieldAddr0 rfl) rfl ?_
    | refine R_pure 15 rfl (by kernel_rfl) (by kernel_rfl) (by kernel_rfl) (by kernel_rfl) (.inr ⟨_, Take.eq (A := (sep (cel b5 [.bool w.hi, .int .i64 w.id, .string w.tx] 93) (cel r [c0, c1, c2, c3, c4, c5, c6, c7] 71)))⟩) (opv_fieldAddr rfl) rfl ?_
  refine R_only 16 rfl rfl (by kernel_rfl) (opx_store rfl rfl rfl (by simp [Value.oneCell'])) (fun _ _ => ⟨_, Take.eq (A := cel b5 [.bool w.hi, .int .i64 w.id, .string w.tx] 93)⟩) (.inl (by kernel_rfl)) (fun _ _ => ?_)
  refine R_done (by kernel_rfl) ?_
  exact K_end0 rfl b19 trivial rfl Ent.take

end Go.Proofs.Ytpnpdliimidoaaa
