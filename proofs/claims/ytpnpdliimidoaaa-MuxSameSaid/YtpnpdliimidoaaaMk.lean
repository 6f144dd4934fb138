/- The law MuxSame of the package pitotlaw14 holds for every input: what goes is the same, however often the wire is asked. No condition. -/
import Derived.Test.YtpnpdliimidoaaaMh
import Derived.Test.YtpnpdliimidoaaaH
namespace Go.Proofs.Ytpnpdliimidoaaa
open Go.SLA
set_option maxRecDepth 100000
set_option linter.unusedVariables false
set_option linter.unusedSimpArgs false
attribute [local irreducible] J L K QL Rg FSpec OpV OpX Rd Back

theorem opv_ff {prog : Program} {σ : World} {n : Nat} {E : Env} {Pr : HProp} {o : Oper} {p : Prop} {inst : Decidable p} (h : OpV prog σ n E Pr o (.bool (@decide p inst))) (hp : ¬ p) : OpV prog σ n E Pr o (.bool false) := by rwa [decide_eq_false hp] at h
/-- The offers alone. -/
def outs (xs : List OpM) : List OpM := xs.filter fun x => !x.pass
theorem offs_outs (xs : List OpM) : offs (outs xs) = offs xs := by
  unfold offs outs
  induction xs with
  | nil => rfl
  | cons x xs ih =>
    rw [List.filter_cons]
    cases hp : x.pass with
    | true =>
      simp only [Bool.not_true, Bool.false_eq_true, if_false]
      rw [ih, List.filterMap_cons, hp]
      rfl
    | false =>
      simp only [Bool.not_false, if_true]
      rw [List.filterMap_cons, List.filterMap_cons, hp, ih]
theorem okAll_less : ∀ (xs : List OpM) (a b : Int), a ≤ b → okAll b xs = true → okAll a xs = true
  | [], _, _, _, _ => rfl
  | x :: xs, a, b, hab, h => by
    simp only [okAll, Bool.and_eq_true, decide_eq_true_eq] at h ⊢
    exact ⟨by omega, h.2⟩
theorem okAll_outs : ∀ (xs : List OpM) (a : Int), okAll a xs = true → okAll a (outs xs) = true
  | [], _, _ => rfl
  | x :: xs, a, h => by
    simp only [okAll, Bool.and_eq_true, decide_eq_true_eq] at h
    have ih := okAll_outs xs x.now h.2
    unfold outs at *
    rw [List.filter_cons]
    split
    · simp only [okAll, Bool.and_eq_true, decide_eq_true_eq]
      exact ⟨h.1, ih⟩
    · exact okAll_less _ a x.now (by omega) ih
theorem right_outs {xs : List OpM} (h : rightB xs = true) : rightB (outs xs) = true := by
  rw [rightB, Bool.and_eq_true, decide_eq_true_eq] at h ⊢
  have := List.length_filter_le (fun x : OpM => !x.pass) xs
  exact ⟨okAll_outs _ _ h.1, by show ((xs.filter fun x => !x.pass).length : Int) ≤ 100; omega⟩
theorem outs_pass {xs : List OpM} {k : Nat} {x : OpM} (hx : xs[k]? = some x) (hp : x.pass = true) : outs (xs.take (k + 1)) = outs (xs.take k) := by
  have hk := get_lt hx
  rw [List.getElem?_eq_getElem hk] at hx
  simp only [Option.some.injEq] at hx
  unfold outs
  rw [List.take_succ_eq_append_getElem hk, hx, List.filter_append]
  simp [hp]
theorem outs_offer {xs : List OpM} {k : Nat} {x : OpM} (hx : xs[k]? = some x) (hp : x.pass = false) : outs (xs.take (k + 1)) = outs (xs.take k) ++ [x] := by
  have hk := get_lt hx
  rw [List.getElem?_eq_getElem hk] at hx
  simp only [Option.some.injEq] at hx
  unfold outs
  rw [List.take_succ_eq_append_getElem hk, hx, List.filter_append]
  simp [hp]
theorem outs_len (xs : List OpM) (k : Nat) : (outs (xs.take k)).length ≤ k := by
  have h1 := List.length_filter_le (fun x : OpM => !x.pass) (xs.take k)
  have h2 := List.length_take_le k xs
  unfold outs
  omega
theorem encOp_one (x : OpM) : ∀ u ∈ encOp x, u.oneCell' = true := by
  intro u hu
  simp only [encOp, List.mem_cons, List.not_mem_nil, or_false] at hu
  rcases hu with rfl | rfl | rfl | rfl <;> rfl
theorem gone_outs (R0 : HProp) (A : Option Addr) (c : Nat) (xs : List OpM) (hR : RdS R0 encOp 4 A (outs xs)) (hr : rightB xs = true) : FSpec Try.prog 17 #[.slice A (outs xs).length c] R0 (fun _ : (Option Addr × Nat) × (Option Addr × Nat) => True)
    (fun r => .tuple #[.slice r.1.1 (sched (offs xs)).length r.1.2, .slice r.2.1 (offs xs).length r.2.2, .bool true])
    (fun r => (sep (R0) (sep (Own 30 4 (.slice r.1.1 (sched (offs xs)).length r.1.2) (sched (offs xs)).length ((sched (offs xs)).flatMap enc)) (Own 3 1 (.slice r.2.1 (offs xs).length r.2.2) (offs xs).length ((offs xs).flatMap encI))))) := by
  have := gone_ok R0 A c (outs xs) hR (right_outs hr)
  rwa [offs_outs] at this

theorem MuxSame_no (W : World) (A : Option Addr) (c : Nat) (xs : List OpM) (hR : RdS (old W) encOp 4 A xs) (hn : xs.length ≤ 9223372036854775807) (hr : rightB xs = false) : FSpec Try.prog 5 #[.slice A xs.length c] (old W) (fun _ : Unit => True) (fun _ => .bool true) (fun _ => old W) := by
  refine FSpec.enter' Try.func5 rfl Try.ntmps5 rfl fun σ F => ?_
  refine J_seq ?_
  refine J_region ?_
  refine L_v (opv_assign rfl) rfl ?_
  refine L_nil ?_
  refine K_then ?_
  refine J_seq ?_
  refine J_seq ?_
  refine J_region ?_
  refine L_v (opv_move rfl) rfl ?_
  refine L_x rfl (opx_call0 (right_no (old W) A c xs hR hn hr) rfl rfl rfl) (fun _ _ => ?_)
  refine L_v (opv_not rfl) rfl ?_
  refine L_nil ?_
  refine K_then ?_
  refine J_cond_true rfl ?_
  refine J_seq ?_
  refine J_region ?_
  refine L_x rfl (opx_call0 (awake_spec) rfl rfl rfl) (fun _ _ => ?_)
  refine L_emp ?_
  refine L_v (opv_assign rfl) rfl ?_
  refine L_nil ?_
  refine K_then ?_
  refine J_ret ?_
  refine K_then_ret ?_
  exact K_ret1 rfl rfl () trivial (rfl) (Ent.refl _)

theorem MuxSame_yes (W : World) (A : Option Addr) (c : Nat) (xs : List OpM) (hR : RdS (old W) encOp 4 A xs) (hn : xs.length ≤ 9223372036854775807) (hr : rightB xs = true) : FSpec Try.prog 5 #[.slice A xs.length c] (old W) (fun _ : Unit => True) (fun _ => .bool true) (fun _ => old W) := by
  have hok := right_offs hr
  have hr2 := hr
  rw [rightB, Bool.and_eq_true, decide_eq_true_eq] at hr2
  refine FSpec.enter' Try.func5 rfl Try.ntmps5 rfl fun σ F => ?_
  refine J_seq ?_
  refine J_region ?_
  refine L_v (opv_assign rfl) rfl ?_
  refine L_nil ?_
  refine K_then ?_
  refine J_seq ?_
  refine J_seq ?_
  refine J_region ?_
  refine L_v (opv_move rfl) rfl ?_
  refine L_x rfl (opx_call0 (right_yes (old W) A c xs hR hn hr) rfl rfl rfl) (fun _ _ => ?_)
  refine L_v (opv_not rfl) rfl ?_
  refine L_nil ?_
  refine K_then ?_
  refine J_cond_false rfl ?_
  refine J_skip ?_
  refine K_then ?_
  refine J_seq ?_
  refine J_region ?_
  refine L_v (opv_assign rfl) rfl ?_
  refine L_nil ?_
  refine K_then ?_
  refine J_seq ?_
  refine J_seq ?_
  refine J_region ?_
  refine L_v (opv_assign rfl) rfl ?_
  refine L_nil ?_
  refine K_then ?_
  refine J_block ?_
  refine J_loop (X := Nat × (Option Addr × Nat)) (fun y => [(0, .slice A xs.length c), (3, .slice y.2.1 (outs (xs.take y.1)).length y.2.2), (4, .int .i64 y.1)]) (fun y => (sep (Own 33 4 (.slice y.2.1 (outs (xs.take y.1)).length y.2.2) (outs (xs.take y.1)).length ((outs (xs.take y.1)).flatMap encOp)) (sep (old W) (F)))) (fun y => y.1 ≤ xs.length) (fun y => xs.length - y.1) ((0, (none, 0))) (Nat.zero_le _) ⟨rfl, rfl, rfl, trivial⟩ (Ent.trans (Ent.of (emp_sep _).symm) ((Own.nil 33 4).frame _)) (fun y hk => ?_)
  refine J_seq ?_
  refine J_seq ?_
  refine J_region ?_
  refine L_v (opv_move rfl) rfl ?_
  refine L_v (opv_move rfl) rfl ?_
  first
    | refine L_v (opv_lenL rfl) rfl ?_
    | refine L_v (opv_lenS rfl) rfl ?_
  refine L_v (opv_lss rfl rfl) rfl ?_
  refine L_nil ?_
  refine K_then ?_
  refine J_cond rfl (fun h1 => ?_) (fun h1 => ?_)
  · have hkl : y.1 < xs.length := by omega
    obtain ⟨x, hx⟩ : ∃ x, xs[y.1]? = some x := ⟨_, List.getElem?_eq_getElem hkl⟩
    obtain ⟨b, o, rfl⟩ := hR.nonnil y.1 hkl
    have hol := outs_len xs y.1
    refine J_skip ?_
    refine K_then ?_
    refine J_seq ?_
    refine J_block ?_
    refine J_seq ?_
    refine J_region ?_
    refine L_v (opv_move rfl) rfl ?_
    refine L_v (opv_move rfl) rfl ?_
    first
      | refine L_v (opv_indexAddr rfl rfl (by omega)) rfl ?_
      | refine L_v (opv_indexAddrA rfl rfl (by omega)) rfl ?_
    first
      | refine L_v (opv_fieldAddr0 rfl) rfl ?_
      | refine L_v (opv_fieldAddr rfl) rfl ?_
    refine L_v (opv_load rfl (Rd.of_take (S := old W) (hR.rd b o rfl y.1 x 0 _ hx rfl))) rfl ?_
    first
      | refine L_v (opv_notD rfl) rfl ?_
      | refine L_v (opv_not rfl) rfl ?_
    refine L_nil ?_
    refine K_then ?_
    refine J_cond_bool rfl (fun h2 => ?_) (fun h2 => ?_)
    · refine J_region ?_
      refine L_v (opv_move rfl) rfl ?_
      refine L_v (opv_move rfl) rfl ?_
      refine L_v (opv_move rfl) rfl ?_
      first
        | refine L_v (opv_indexAddr rfl rfl (by omega)) rfl ?_
        | refine L_v (opv_indexAddrA rfl rfl (by omega)) rfl ?_
      refine L_v (opv_loadN (vs := encOp x) rfl rfl (fun j u hj => Rd.of_take (S := old W) (hR.rd b o rfl y.1 x j u hx hj))) rfl ?_
      refine L_x rfl (opx_buildSlice1 (m := 4) rfl rfl (by omega) (by omega) rfl) (fun b33 _ => ?_)
      refine L_x rfl (opx_append (m := 4) (B := 40) rfl rfl (Src.lit) rfl (by omega) rfl (encOp_one x) (by unfold maxLen; omega) (by omega) rfl) (fun y34 _ => ?_)
      refine L_v (opv_assign rfl) rfl ?_
      refine L_nil ?_
      refine K_block ?_
      refine K_then ?_
      refine J_region ?_
      refine L_v (opv_move rfl) rfl ?_
      first
        | refine L_v (opv_add64 rfl rfl (by omega)) rfl ?_
        | refine L_v (opv_addS rfl rfl (by omega)) rfl ?_
        | refine L_v (opv_add rfl rfl) rfl ?_
      refine L_v (opv_assign rfl) rfl ?_
      refine L_nil ?_
      have hp : x.pass = false := by cases h : x.pass <;> simp_all
      have e := outs_offer hx hp
      have e2 : (outs (xs.take y.1)).flatMap encOp ++ encOp x = (outs (xs.take (y.1 + 1))).flatMap encOp := by rw [e, List.flatMap_append]; simp
      have e3 : (outs (xs.take y.1)).length + 1 = (outs (xs.take (y.1 + 1))).length := by rw [e]; simp
      exact K_loop ((y.1 + 1, y34)) (by show y.1 + 1 ≤ _; omega) (by show _ - (y.1 + 1) < _; omega) (by dsimp only; rw [← e3]; exact ⟨rfl, rfl, rfl, trivial⟩) (by dsimp only; rw [← e2, ← e3]; exact Ent.take)
    · refine J_skip ?_
      refine K_block ?_
      refine K_then ?_
      refine J_region ?_
      refine L_v (opv_move rfl) rfl ?_
      first
        | refine L_v (opv_add64 rfl rfl (by omega)) rfl ?_
        | refine L_v (opv_addS rfl rfl (by omega)) rfl ?_
        | refine L_v (opv_add rfl rfl) rfl ?_
      refine L_v (opv_assign rfl) rfl ?_
      refine L_nil ?_
      have hp : x.pass = true := by cases h : x.pass <;> simp_all
      have e := outs_pass hx hp
      exact K_loop ((y.1 + 1, y.2)) (by show y.1 + 1 ≤ _; omega) (by show _ - (y.1 + 1) < _; omega) (by dsimp only; rw [e]; exact ⟨rfl, rfl, rfl, trivial⟩) (by dsimp only; rw [e]; exact Ent.refl _)
  · have he : y.1 = xs.length := by omega
    obtain ⟨k, A5, c5⟩ := y
    dsimp only at he
    subst he
    rw [List.take_length]
    refine J_exit ?_
    refine K_then_exit ?_
    refine K_then_exit ?_
    refine K_block_here ?_
    refine K_then ?_
    refine J_seq ?_
    refine J_know (fun w hs => own_nonnil hs) fun hA5 => ?_
    have hA5 : outs xs = [] ∨ ∃ b o, A5 = some (ad b o) := by rcases hA5 with ⟨_, _, h, _⟩ | h; exact .inl (List.eq_nil_of_length_eq_zero h); exact .inr h
    refine J_region ?_
    refine L_v (opv_move rfl) rfl ?_
    refine L_x rfl (opx_call0 (gone_ok (old W) A c xs hR hr) rfl rfl rfl) (fun r1 _ => ?_)
    refine L_v (opv_move rfl) rfl ?_
    refine L_v (opv_extract rfl rfl) rfl ?_
    refine L_v (opv_extract rfl rfl) rfl ?_
    refine L_v (opv_extract rfl rfl) rfl ?_
    refine L_v (opv_assign rfl) rfl ?_
    refine L_v (opv_assign rfl) rfl ?_
    refine L_v (opv_assign rfl) rfl ?_
    refine L_nil ?_
    refine K_then ?_
    refine J_seq ?_
    refine J_region ?_
    refine L_v (opv_move rfl) rfl ?_
    refine L_x rfl (opx_call0 (gone_outs (Own 33 4 (.slice A5 (outs xs).length c5) (outs xs).length ((outs xs).flatMap encOp)) A5 c5 xs (RdS.own encOp_len hA5) hr) rfl rfl rfl) (fun r2 _ => ?_)
    refine L_v (opv_move rfl) rfl ?_
    refine L_v (opv_extract rfl rfl) rfl ?_
    refine L_v (opv_extract rfl rfl) rfl ?_
    refine L_v (opv_extract rfl rfl) rfl ?_
    refine L_v (opv_assign rfl) rfl ?_
    refine L_v (opv_assign rfl) rfl ?_
    refine L_v (opv_assign rfl) rfl ?_
    refine L_nil ?_
    refine K_then ?_
    refine J_seq ?_
    refine J_seq ?_
    obtain ⟨⟨A1, c1⟩, ⟨A2, c2⟩⟩ := r1
    obtain ⟨⟨A3, c3⟩, ⟨A4, c4⟩⟩ := r2
    have hol := hok.2
    have hsl := sched_len (offs xs)
    refine J_imp (sep (Own 30 4 (.slice A1 (sched (offs xs)).length c1) (sched (offs xs)).length ((sched (offs xs)).flatMap enc)) (sep (Own 30 4 (.slice A3 (sched (offs xs)).length c3) (sched (offs xs)).length ((sched (offs xs)).flatMap enc)) (sep (old W) (F)))) ?_ ?_
    · exact Ent.take
    refine J_know (fun w hs => own_nonnil hs) fun hA1 => ?_
    refine J_know (fun w hs => own_nonnil hs.drop) fun hA3 => ?_
    refine J_region ?_
    refine L_v (opv_move rfl) rfl ?_
    refine L_v (opv_not rfl) rfl ?_
    refine L_v (opv_move rfl) rfl ?_
    refine L_gon rfl rfl rfl ?_
    refine L_v (opv_move rfl) rfl ?_
    refine L_gon rfl rfl rfl ?_
    refine L_v (opv_not rfl) rfl ?_
    first
      | refine L_v (opv_pick_tt rfl rfl) rfl ?_
      | refine L_v (opv_pick_ff rfl rfl) rfl ?_
      | refine L_v (opv_pick rfl rfl rfl) rfl ?_
    refine L_v (opv_move rfl) rfl ?_
    refine L_gon rfl rfl rfl ?_
    refine L_v (opv_move rfl) rfl ?_
    refine L_gon rfl rfl rfl ?_
    first
      | refine L_v (opv_lenL rfl) rfl ?_
      | refine L_v (opv_lenS rfl) rfl ?_
    refine L_gon rfl rfl rfl ?_
    refine L_v (opv_move rfl) rfl ?_
    refine L_gon rfl rfl rfl ?_
    first
      | refine L_v (opv_lenL rfl) rfl ?_
      | refine L_v (opv_lenS rfl) rfl ?_
    refine L_gon rfl rfl rfl ?_
    refine L_v ((opv_neq rfl rfl).bool_f (by simp)) rfl ?_
    first
      | refine L_v (opv_pick_tt rfl rfl) rfl ?_
      | refine L_v (opv_pick_ff rfl rfl) rfl ?_
      | refine L_v (opv_pick rfl rfl rfl) rfl ?_
    refine L_nil ?_
    refine K_then ?_
    refine J_cond_false rfl ?_
    refine J_skip ?_
    refine K_then ?_
    refine J_seq ?_
    refine J_seq ?_
    refine J_region ?_
    refine L_v (opv_assign rfl) rfl ?_
    refine L_nil ?_
    refine K_then ?_
    refine J_block ?_
    refine J_loop (X := Nat) (fun k => [(5, .slice A1 (sched (offs xs)).length c1), (8, .slice A3 (sched (offs xs)).length c3), (11, .int .i64 k)]) (fun k => (sep (Own 30 4 (.slice A1 (sched (offs xs)).length c1) (sched (offs xs)).length ((sched (offs xs)).flatMap enc)) (sep (Own 30 4 (.slice A3 (sched (offs xs)).length c3) (sched (offs xs)).length ((sched (offs xs)).flatMap enc)) (sep (old W) (F))))) (fun k => k ≤ (offs xs).length) (fun k => (offs xs).length - k) (0) (Nat.zero_le _) ⟨rfl, rfl, rfl, trivial⟩ (Ent.refl _) (fun k hk => ?_)
    refine J_seq ?_
    refine J_seq ?_
    refine J_region ?_
    refine L_v (opv_move rfl) rfl ?_
    refine L_v (opv_move rfl) rfl ?_
    first
      | refine L_v (opv_lenL rfl) rfl ?_
      | refine L_v (opv_lenS rfl) rfl ?_
    refine L_v (opv_lss rfl rfl) rfl ?_
    refine L_nil ?_
    refine K_then ?_
    refine J_cond rfl (fun h3 => ?_) (fun h3 => ?_)
    · have hkl2 : k < (offs xs).length := by omega
      obtain ⟨a, ha⟩ : ∃ a, (offs xs)[k]? = some a := ⟨_, List.getElem?_eq_getElem hkl2⟩
      obtain ⟨x, hx, hx1, hx2, hx3, hx4, hx5⟩ := sched_get _ _ _ ha
      obtain ⟨b1, o1, rfl⟩ : ∃ b o, A1 = some (ad b o) := by rcases hA1 with ⟨_, _, h, _⟩ | h; omega; exact h
      obtain ⟨b3, o3, rfl⟩ : ∃ b o, A3 = some (ad b o) := by rcases hA3 with ⟨_, _, h, _⟩ | h; omega; exact h
      refine J_skip ?_
      refine K_then ?_
      refine J_seq ?_
      refine J_block ?_
      refine J_seq ?_
      refine J_quiet Try.mixed (by kernel_rfl) ?_
      refine Q_v (opv_move rfl) rfl ?_
      refine Q_v (opv_move rfl) rfl ?_
      first
        | refine Q_v (opv_indexAddr rfl rfl (by omega)) rfl ?_
        | refine Q_v (opv_indexAddrA rfl rfl (by omega)) rfl ?_
      refine Q_v (opv_loadN (vs := enc x) rfl rfl (fun j u hj => Rd.of_take (S := Own 30 4 (.slice (some (ad b1 o1)) (sched (offs xs)).length c1) (sched (offs xs)).length ((sched (offs xs)).flatMap enc)) ((RdS.own (m := 4) (e := 30) (c := c1) enc_len (.inr ⟨b1, o1, rfl⟩)).rd b1 o1 rfl k x j u hx hj))) rfl ?_
      refine Q_v (opv_move rfl) rfl ?_
      refine Q_v (opv_move rfl) rfl ?_
      first
        | refine Q_v (opv_indexAddr rfl rfl (by omega)) rfl ?_
        | refine Q_v (opv_indexAddrA rfl rfl (by omega)) rfl ?_
      refine Q_v (opv_loadN (vs := enc x) rfl rfl (fun j u hj => Rd.of_take (S := Own 30 4 (.slice (some (ad b3 o3)) (sched (offs xs)).length c3) (sched (offs xs)).length ((sched (offs xs)).flatMap enc)) ((RdS.own (m := 4) (e := 30) (c := c3) enc_len (.inr ⟨b3, o3, rfl⟩)).rd b3 o3 rfl k x j u hx hj))) rfl ?_
      refine Q_v (opv_ff (opv_neqF rfl rfl (by simp [enc, Shape, CK.sh]) (by simp [enc, Shape, CK.sh])) (fun h => h rfl)) rfl ?_
      refine QL_nil ?_
      refine K_then ?_
      refine J_cond_false rfl ?_
      refine J_skip ?_
      refine K_block ?_
      refine K_then ?_
      refine J_region ?_
      refine L_v (opv_move rfl) rfl ?_
      first
        | refine L_v (opv_add64 rfl rfl (by omega)) rfl ?_
        | refine L_v (opv_addS rfl rfl (by omega)) rfl ?_
        | refine L_v (opv_add rfl rfl) rfl ?_
      refine L_v (opv_assign rfl) rfl ?_
      refine L_nil ?_
      exact K_loop (k + 1) (by omega) (by omega) ⟨rfl, rfl, rfl, trivial⟩ (Ent.refl _)
    · refine J_exit ?_
      refine K_then_exit ?_
      refine K_then_exit ?_
      refine K_block_here ?_
      refine K_then ?_
      refine J_seq ?_
      refine J_region ?_
      refine L_x rfl (opx_call0 (awake_spec) rfl rfl rfl) (fun _ _ => ?_)
      refine L_emp ?_
      refine L_v (opv_assign rfl) rfl ?_
      refine L_nil ?_
      refine K_then ?_
      refine J_ret ?_
      exact K_ret1 rfl rfl () trivial (rfl) (Ent.trans Ent.take (Ent.refl _))


theorem MuxSame_law (W : World) (A : Option Addr) (len c : Nat) (xs : List OpM) (h : ArrIn W encOp 4 A len xs) (hl : len ≤ c) (hc : c ≤ maxLen) : FSpec Try.prog 5 #[.slice A len c] (old W) (fun _ : Unit => True) (fun _ => .bool true) (fun _ => old W) := by
  have e := h.1
  subst e
  have hn : xs.length ≤ 9223372036854775807 := by unfold maxLen at hc; omega
  cases hr : rightB xs with
  | false => exact MuxSame_no W A c xs (RdS.old h) hn hr
  | true => exact MuxSame_yes W A c xs (RdS.old h) hn hr

end Go.Proofs.Ytpnpdliimidoaaa
namespace Go.Proofs.Ytpnpdliimidoaaa.muxSame
open Go.ChangeShapes Go.WideShapes Go.ChangeAt Go.RowKit Go.SLA
open Go.ChangeMaps (open_string shut_string)
set_option linter.unusedVariables false
theorem own : ownKnob Try.prog.godebug = none := by kernel_rfl
theorem laidOut : laidOutB Try.prog = true := by kernel_rfl
set_option maxRecDepth 100000 in
theorem lifted (os : Os) (started : os.Started) (H : Type) (enc : TypeId × Value → H) :
    ReturnsInHanded {} Try.checked os 5 .any (Rows.muxSameSpec.pre6 enc Try.prog Try.f5 Rows.muxSameRow.domain false) (Rows.muxSameSpec.post enc Try.prog Try.f5 false true false false) := by
  refine returnsInHanded_of_change_sized (C := Try.checked) own started (by kernel_rfl) Try.func5
    (ChangeSpec.witness6 (enc := enc) (C := Try.checked) false ⟨#[], #[.slice none 0 0], []⟩ 8 (by kernel_rfl) (by kernel_rfl) (by kernel_rfl) (by kernel_rfl)) ?_
  intro W base args ds gs before hval0 hW hcnd hsz0 _
  have hsz : (DataW.weightsEach Try.prog (Try.f5.params.toList ++ Rows.muxSameSpec.plain.varTypes Try.prog) (ds ++ gs)).all (· ≤ reachBytes) = true := hsz0
  have hval : ∀ (j : Nat) t v, Try.f5.params[j]? = some t → args[j]? = some v → Value.okWide Try.prog W .any base t v := hval0
  have hW' := hW
  obtain ⟨p, q, hA0, hV, rfl, hfz, hnd⟩ := hW
  have hA : DataW.TrodAll enc Try.prog W 0 (fun _ => true) true Try.f5.params.toList args.toList ds p := hA0
  rw [Try.params5] at hA hval hsz
  obtain ⟨v0, vs0, d0, ds0, p0, q0, hargs, rfl, rfl, h0, r0⟩ := trodAll_cons hA
  obtain ⟨rfl, rfl, rfl⟩ := trodAll_nil r0
  obtain rfl : args = #[v0] := by cases args; simp_all
  obtain ⟨rfl, rfl⟩ := trodVars_none hV
  have k0 := h0
  have lt0 : ∀ x ∈ p0, x.block < W.heap.size := by obtain ⟨m, hm⟩ := k0; exact DataW.trod_lt m _ _ _ hm
  obtain ⟨A0, len0, cap0, xs0, rfl, hl0, hc0, harr0, hok0⟩ := open_arr (D := 3) (ks := ksOp) (en := encOp) (ok := okOp) Try.underlying22 (by kernel_rfl) (by kernel_rfl) (by decide) (fun cs h => decOp cs h) (hval 0 22 v0 rfl rfl) h0
  clear hA0 hval0 hsz0 hsz
  refine (FSpec.law (MuxSame_law W A0 len0 cap0 xs0 harr0 hl0 hc0)).mono fun e W' ⟨he, bel⟩ => ?_
  subst he
  exact ⟨_, rfl, _, _, _, [], _, [], hW', trodAll_mk1 (shut_bool Try.underlying4 _), (trodAll_cons_mk (Below.trod laidOut (by kernel_rfl) (of_decide_eq_true (by kernel_rfl)) k0 bel lt0) trodAll_mk0), rfl, bel.frame _, fun h => by cases h⟩
theorem over : Rows.muxSameRow.holds Try.pinned (OpenSpec.ofChange Rows.muxSameSpec) :=
  OpenClaim.holds_of_wide 5 Try.f5 rfl rfl rfl rfl rfl rfl rfl ⟨rfl, rfl, rfl, rfl, rfl⟩ rfl rfl rfl rfl rfl (by kernel_rfl) Try.func5 (by kernel_rfl)
    (of_decide_eq_true (by kernel_rfl)) (by unfold Func.isWrapper; first | (rw [if_pos (by decide +kernel)]; kernel_rfl) | (rw [if_neg (by decide +kernel)]; exact ⟨rfl, rfl⟩))
    (fun os started H enc _ => lifted os started H enc)
end Go.Proofs.Ytpnpdliimidoaaa.muxSame
namespace Go.Proofs.Ytpnpdliimidoaaa
theorem muxSame_holds : Rows.MuxSameSaid := muxSame.over
#print axioms muxSame_holds
end Go.Proofs.Ytpnpdliimidoaaa
namespace Go.Proofs.Ytpnpdliimidoaaa
open Go.SLA
end Go.Proofs.Ytpnpdliimidoaaa
