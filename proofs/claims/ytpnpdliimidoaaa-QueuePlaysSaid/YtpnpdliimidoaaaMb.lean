/- Contracts of functions of the translation, each proved by a walk over its code; they are used by the texts that import this one. -/
import Derived.Test.YtpnpdliimidoaaaMa
import Derived.Test.YtpnpdliimidoaaaH
namespace Go.Proofs.Ytpnpdliimidoaaa
open Go.SLA
set_option maxRecDepth 100000
set_option linter.unusedVariables false
set_option linter.unusedSimpArgs false
attribute [local irreducible] J L K QL Rg FSpec OpV OpX Rd Back
theorem New_spec  : FSpec Try.prog 18 #[] (emp) (fun p : Nat => True) (fun p => .pointer (some (ad p 0))) (fun p => LineP p [] 0 0) := by
  refine FSpec.enter' Try.func18 rfl Try.ntmps18 rfl fun σ F => ?_
  refine J_emp ?_
  refine J_seq ?_
  refine J_region ?_
  refine L_v (opv_assign rfl) rfl ?_
  refine L_nil ?_
  refine K_then ?_
  refine J_seq ?_
  refine J_region ?_
  refine L_v (opv_build rfl) rfl ?_
  refine L_x rfl (opx_box rfl rfl) (fun p _ => ?_)
  refine L_v (opv_assign rfl) rfl ?_
  refine L_nil ?_
  refine K_then ?_
  refine J_ret ?_
  exact K_ret1 rfl rfl p trivial rfl (Ent.trans (Ent.trans (Ent.frame_left (Ent.trans (Ent.of (emp_sep _).symm) ((Own.nil 30 4).frame F)) _) (Ent.refl _)) (LineP.fold (q := []) none 0))

theorem Waits_nil  : FSpec Try.prog 21 #[.pointer none] (emp) (fun _ : Unit => True) (fun _ => .int .i64 0) (fun _ => emp) := by
  refine FSpec.enter' Try.func21 rfl Try.ntmps21 rfl fun σ F => ?_
  refine J_seq ?_
  refine J_region ?_
  refine L_v (opv_assign rfl) rfl ?_
  refine L_nil ?_
  refine K_then ?_
  refine J_seq ?_
  refine J_seq ?_
  refine J_region ?_
  refine L_v (opv_move rfl) rfl ?_
  first
    | refine L_v (opv_eql rfl rfl) rfl ?_
    | refine L_v (opv_eqlS rfl rfl) rfl ?_
    | refine L_v (opv_eqlNil rfl rfl) rfl ?_
    | refine L_v (opv_eqlB rfl rfl) rfl ?_
  refine L_nil ?_
  refine K_then ?_
  refine J_cond_true rfl ?_
  refine J_seq ?_
  refine J_region ?_
  refine L_v (opv_assign rfl) rfl ?_
  refine L_nil ?_
  refine K_then ?_
  refine J_ret ?_
  refine K_then_ret ?_
  exact K_ret1 rfl rfl () trivial (rfl) (Ent.refl _)

theorem Waits_spec (p : Nat) (q : List Sn) (cur free : Int) : FSpec Try.prog 21 #[.pointer (some (ad p 0))] (LineP p q cur free) (fun _ : Unit => True) (fun _ => .int .i64 q.length) (fun _ => LineP p q cur free) := by
  refine FSpec.enter' Try.func21 rfl Try.ntmps21 rfl fun σ F => ?_
  refine J_ex fun x => ?_
  refine J_eq _ (sep_assoc _ _ _) ?_
  refine J_seq ?_
  refine J_region ?_
  refine L_v (opv_assign rfl) rfl ?_
  refine L_nil ?_
  refine K_then ?_
  refine J_seq ?_
  refine J_seq ?_
  refine J_region ?_
  refine L_v (opv_move rfl) rfl ?_
  first
    | refine L_v (opv_eql rfl rfl) rfl ?_
    | refine L_v (opv_eqlS rfl rfl) rfl ?_
    | refine L_v (opv_eqlNil rfl rfl) rfl ?_
    | refine L_v (opv_eqlB rfl rfl) rfl ?_
  refine L_nil ?_
  refine K_then ?_
  refine J_cond_false rfl ?_
  refine J_skip ?_
  refine K_then ?_
  refine J_seq ?_
  refine J_region ?_
  refine L_v (opv_move rfl) rfl ?_
  refine L_v (opv_nilCheck rfl) rfl ?_
  first
    | refine L_v (opv_fieldAddr0 rfl) rfl ?_
    | refine L_v (opv_fieldAddr rfl) rfl ?_
  refine L_v (opv_load rfl (Rd.look rfl)) rfl ?_
  first
    | refine L_v (opv_lenL rfl) rfl ?_
    | refine L_v (opv_lenS rfl) rfl ?_
  refine L_v (opv_assign rfl) rfl ?_
  refine L_nil ?_
  refine K_then ?_
  refine J_ret ?_
  exact K_ret1 rfl rfl () trivial (rfl) (LineP.fold x.1 x.2)

theorem Free_nil  : FSpec Try.prog 24 #[.pointer none] (emp) (fun _ : Unit => True) (fun _ => .int .i64 0) (fun _ => emp) := by
  refine FSpec.enter' Try.func24 rfl Try.ntmps24 rfl fun σ F => ?_
  refine J_seq ?_
  refine J_region ?_
  refine L_v (opv_assign rfl) rfl ?_
  refine L_nil ?_
  refine K_then ?_
  refine J_seq ?_
  refine J_seq ?_
  refine J_region ?_
  refine L_v (opv_move rfl) rfl ?_
  first
    | refine L_v (opv_eql rfl rfl) rfl ?_
    | refine L_v (opv_eqlS rfl rfl) rfl ?_
    | refine L_v (opv_eqlNil rfl rfl) rfl ?_
    | refine L_v (opv_eqlB rfl rfl) rfl ?_
  refine L_nil ?_
  refine K_then ?_
  refine J_cond_true rfl ?_
  refine J_seq ?_
  refine J_region ?_
  refine L_v (opv_assign rfl) rfl ?_
  refine L_nil ?_
  refine K_then ?_
  refine J_ret ?_
  refine K_then_ret ?_
  exact K_ret1 rfl rfl () trivial (rfl) (Ent.refl _)

theorem Free_spec (p : Nat) (q : List Sn) (cur free : Int) : FSpec Try.prog 24 #[.pointer (some (ad p 0))] (LineP p q cur free) (fun _ : Unit => True) (fun _ => .int .i64 free) (fun _ => LineP p q cur free) := by
  refine FSpec.enter' Try.func24 rfl Try.ntmps24 rfl fun σ F => ?_
  refine J_ex fun x => ?_
  refine J_eq _ (sep_assoc _ _ _) ?_
  refine J_seq ?_
  refine J_region ?_
  refine L_v (opv_assign rfl) rfl ?_
  refine L_nil ?_
  refine K_then ?_
  refine J_seq ?_
  refine J_seq ?_
  refine J_region ?_
  refine L_v (opv_move rfl) rfl ?_
  first
    | refine L_v (opv_eql rfl rfl) rfl ?_
    | refine L_v (opv_eqlS rfl rfl) rfl ?_
    | refine L_v (opv_eqlNil rfl rfl) rfl ?_
    | refine L_v (opv_eqlB rfl rfl) rfl ?_
  refine L_nil ?_
  refine K_then ?_
  refine J_cond_false rfl ?_
  refine J_skip ?_
  refine K_then ?_
  refine J_seq ?_
  refine J_region ?_
  refine L_v (opv_move rfl) rfl ?_
  refine L_v (opv_nilCheck rfl) rfl ?_
  first
    | refine L_v (opv_fieldAddr0 rfl) rfl ?_
    | refine L_v (opv_fieldAddr rfl) rfl ?_
  refine L_v (opv_load rfl (Rd.look rfl)) rfl ?_
  refine L_v (opv_assign rfl) rfl ?_
  refine L_nil ?_
  refine K_then ?_
  refine J_ret ?_
  exact K_ret1 rfl rfl () trivial (rfl) (LineP.fold x.1 x.2)

theorem enc_len (x : Sn) : (enc x).length = 4 := rfl
theorem above_spec (x : Sn) (b : Nat) (now : Int) : FSpec Try.prog 43 #[.agg (enc x).toArray, .pointer (some (ad b 0))] (cel b [.int .i64 now] 3) (fun _ : Unit => True) (fun _ => .bool (decide (now < x.e))) (fun _ => cel b [.int .i64 now] 3) := by
  refine FSpec.enter' Try.func43 rfl Try.ntmps43 rfl fun σ F => ?_
  refine J_seq ?_
  refine J_region ?_
  refine L_x rfl (opx_box (l := enc x) rfl rfl) (fun b2 _ => ?_)
  refine L_v (opv_assign rfl) rfl ?_
  refine L_nil ?_
  refine K_then ?_
  refine J_seq ?_
  refine J_region ?_
  first
    | refine L_v (opv_fieldAddr0 rfl) rfl ?_
    | refine L_v (opv_fieldAddr rfl) rfl ?_
  refine L_v (opv_load rfl (Rd.look (l := enc x) rfl)) rfl ?_
  refine L_v (opv_load rfl (Rd.look rfl)) rfl ?_
  refine L_v (opv_gtr rfl rfl) rfl ?_
  refine L_v (opv_assign rfl) rfl ?_
  refine L_nil ?_
  refine K_then ?_
  refine J_ret ?_
  exact K_ret1 rfl rfl () trivial (rfl) Ent.take

/-- The first text that has not gone at a tick. -/
def fst (q : List Sn) (now : Int) : Nat := q.findIdx fun x => decide (now < x.e)
theorem fst_le (q : List Sn) (now : Int) : fst q now ≤ q.length := List.findIdx_le_length
theorem fst_here {q : List Sn} {now : Int} {k : Nat} {x : Sn} (hk : k ≤ fst q now) (hx : q[k]? = some x) (h : now < x.e) : fst q now = k := by
  have hl : k < q.length := by
    rcases Nat.lt_or_ge k q.length with h | h
    · exact h
    · rw [List.getElem?_eq_none h] at hx; cases hx
  rw [List.getElem?_eq_getElem hl] at hx
  simp only [Option.some.injEq] at hx
  rcases Nat.lt_or_ge k (fst q now) with h' | h'
  · have := List.not_of_lt_findIdx h'
    rw [hx] at this
    simp [h] at this
  · omega
theorem fst_next {q : List Sn} {now : Int} {k : Nat} {x : Sn} (hk : k ≤ fst q now) (hx : q[k]? = some x) (h : ¬ now < x.e) : k + 1 ≤ fst q now := by
  have hl : k < q.length := by
    rcases Nat.lt_or_ge k q.length with h | h
    · exact h
    · rw [List.getElem?_eq_none h] at hx; cases hx
  rw [List.getElem?_eq_getElem hl] at hx
  simp only [Option.some.injEq] at hx
  rcases Nat.lt_or_ge k (fst q now) with h' | h'
  · omega
  · have e : fst q now = k := by omega
    have hlt : q.findIdx (fun x => decide (now < x.e)) < q.length := by show fst q now < _; omega
    have := List.findIdx_getElem (w := hlt)
    have e2 : q[q.findIdx (fun x => decide (now < x.e))] = x := by rw [← hx]; congr 1
    rw [e2] at this
    simp at this
    exact absurd this h

theorem IndexFunc_spec (b b3 : Nat) (pre post : List Value) (q : List Sn) (c : Nat) (now : Int) (hq : q.length ≤ 9000000000000000000) : FSpec Try.prog 42 #[.slice (some (ad b pre.length)) q.length c, .func (.func 43) #[] #[.pointer (some (ad b3 0))]] ((sep (cel b (pre ++ flat q ++ post) 30) (cel b3 [.int .i64 now] 3))) (fun _ : Unit => True) (fun _ => .int .i64 (if fst q now < q.length then fst q now else -1)) (fun _ => (sep (cel b (pre ++ flat q ++ post) 30) (cel b3 [.int .i64 now] 3))) := by
  refine FSpec.enter' Try.func42 rfl Try.ntmps42 rfl fun σ F => ?_
  refine J_seq ?_
  refine J_region ?_
  refine L_v (opv_assign rfl) rfl ?_
  refine L_nil ?_
  refine K_then ?_
  refine J_seq ?_
  refine J_seq ?_
  refine J_region ?_
  refine L_v (opv_move rfl) rfl ?_
  first
    | refine L_v (opv_lenL rfl) rfl ?_
    | refine L_v (opv_lenS rfl) rfl ?_
  refine L_v (opv_move rfl) rfl ?_
  refine L_nil ?_
  refine K_then ?_
  refine J_block ?_
  refine J_loop (X := Nat) (fun k => [(0, .slice (some (ad b pre.length)) q.length c), (1, .func (.func 43) #[] #[.pointer (some (ad b3 0))]), (7, .int .i64 q.length), (8, .int .i64 k)]) (fun k => (sep (cel b (pre ++ flat q ++ post) 30) (sep (cel b3 [.int .i64 now] 3) (F)))) (fun k => k ≤ fst q now) (fun k => q.length - k) (0) (Nat.zero_le _) ⟨rfl, rfl, rfl, rfl, trivial⟩ (Ent.of (sep_assoc _ _ _)) (fun k hk => ?_)
  refine J_seq ?_
  refine J_region ?_
  refine L_v (opv_lss rfl rfl) rfl ?_
  refine L_nil ?_
  refine K_then ?_
  refine J_seq ?_
  refine J_cond rfl (fun h1 => ?_) (fun h1 => ?_)
  · have hkl : k < q.length := by omega
    obtain ⟨y, hy⟩ : ∃ y, q[k]? = some y := ⟨_, List.getElem?_eq_getElem hkl⟩
    refine J_skip ?_
    refine K_then ?_
    refine J_seq ?_
    refine J_block ?_
    refine J_seq ?_
    refine J_region ?_
    refine L_v (opv_move rfl) rfl ?_
    refine L_v (opv_assign rfl) rfl ?_
    refine L_nil ?_
    refine K_then ?_
    refine J_seq ?_
    refine J_region ?_
    refine L_v (opv_move rfl) rfl ?_
    refine L_v (opv_move rfl) rfl ?_
    refine L_v (opv_move rfl) rfl ?_
    first
      | refine L_v (opv_indexAddr rfl rfl (by omega)) rfl ?_
      | refine L_v (opv_indexAddrA rfl rfl (by omega)) rfl ?_
    refine L_v (opv_loadN (vs := enc y) rfl rfl (fun j u hj => Rd.elem enc_len hy hj)) rfl ?_
    refine L_x rfl (opx_call (first := []) (captured := [.pointer (some (ad b3 0))]) (above_spec y b3 now) rfl rfl rfl rfl) (fun _ _ => ?_)
    refine L_nil ?_
    refine K_then ?_
    refine J_cond_bool rfl (fun h2 => ?_) (fun h2 => ?_)
    · refine J_seq ?_
      refine J_region ?_
      refine L_v (opv_move rfl) rfl ?_
      refine L_v (opv_assign rfl) rfl ?_
      refine L_nil ?_
      refine K_then ?_
      refine J_ret ?_
      refine K_block_ret ?_
      refine K_then_ret ?_
      refine K_then_ret ?_
      refine K_block_ret ?_
      refine K_then_ret ?_
      have e := fst_here hk hy (of_decide_eq_true h2)
      exact K_ret1 rfl rfl () trivial (rv (by rw [if_pos (by omega), e])) Ent.take
    · refine J_skip ?_
      refine K_block ?_
      refine K_then ?_
      refine J_region ?_
      first
        | refine L_v (opv_add64 rfl rfl (by omega)) rfl ?_
        | refine L_v (opv_addS rfl rfl (by omega)) rfl ?_
        | refine L_v (opv_add rfl rfl) rfl ?_
      refine L_v (opv_move rfl) rfl ?_
      refine L_nil ?_
      exact K_loop (k + 1) (fst_next hk hy (of_decide_eq_false h2)) (by omega) ⟨rfl, rfl, rfl, rfl, trivial⟩ Ent.takes
  · refine J_exit ?_
    refine K_then_exit ?_
    refine K_then_exit ?_
    refine K_block_here ?_
    refine K_then ?_
    refine J_seq ?_
    refine J_region ?_
    refine L_v (opv_assign rfl) rfl ?_
    refine L_nil ?_
    refine K_then ?_
    refine J_ret ?_
    exact K_ret1 rfl rfl () trivial (rv (by rw [if_neg (by omega)])) Ent.take

end Go.Proofs.Ytpnpdliimidoaaa
