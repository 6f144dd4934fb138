/- Contracts of functions of the reference of chapter 19 and of the law that compares with it, each proved by a walk over its code; they are used by the texts that import this one. -/
import Derived.Test.YtpnpdliimidoaaaQl
import Derived.Test.YtpnpdliimidoaaaH
namespace Go.Proofs.Ytpnpdliimidoaaa
open Go.SLA
set_option maxRecDepth 100000
set_option linter.unusedVariables false
set_option linter.unusedSimpArgs false
attribute [local irreducible] J L K QL Rg FSpec OpV OpX Rd Back
attribute [local irreducible] xs

theorem take_snoc {α : Type} {q : List α} {k : Nat} {x : α} (hx : q[k]? = some x) : q.take (k + 1) = q.take k ++ [x] := by
  have hk := get_lt hx
  rw [List.getElem?_eq_getElem hk] at hx
  simp only [Option.some.injEq] at hx
  rw [List.take_succ_eq_append_getElem hk, hx]
theorem hs_one_t {x : Tx} (h : x.hi = true) : hs [x] = [⟨x.id, x.tx⟩] ∧ ls [x] = [] := by unfold hs ls; simp [h]
theorem hs_one_f {x : Tx} (h : x.hi = false) : hs [x] = [] ∧ ls [x] = [⟨x.id, x.tx⟩] := by unfold hs ls; simp [h]
theorem hs_le (q : List Tx) (k : Nat) : (hs (q.take k)).length ≤ q.length ∧ (ls (q.take k)).length ≤ q.length := by
  have := len_hl (q.take k)
  have := List.length_take_le' k q
  omega

theorem TCount_true (r : Nat) (c1 c2 c3 c4 c5 c6 c7 : Value) (q : List Tx) (A : Option Addr) (c : Nat) (hq : q.length ≤ 1000000000) : FSpec Try.prog 39 #[.pointer (some (ad r 0)), .bool true] ((sep (cel r [.slice A q.length c, c1, c2, c3, c4, c5, c6, c7] 71) (Own 93 3 (.slice A q.length c) q.length (flatT q)))) (fun _ : Unit => True) (fun _ => .int .i64 ((hs q).length : Int)) (fun _ => (sep (cel r [.slice A q.length c, c1, c2, c3, c4, c5, c6, c7] 71) (Own 93 3 (.slice A q.length c) q.length (flatT q)))) := by
  refine FSpec.enter' Try.func39 rfl Try.ntmps39 rfl fun σ F => ?_
  refine J_eq _ (sep_assoc _ _ _) ?_
  refine J_know (fun w hs => own_nonnil hs.drop) fun hA => ?_
  refine J_seq ?_
  refine J_region ?_
  refine L_v (opv_assign rfl) rfl ?_
  refine L_nil ?_
  refine K_then ?_
  refine J_seq ?_
  refine J_region ?_
  refine L_v (opv_assign rfl) rfl ?_
  refine L_nil ?_
  refine K_then ?_
  refine J_seq ?_
  refine J_seq ?_
  refine J_region ?_
  refine L_v (opv_assign rfl) rfl ?_
  refine L_nil ?_
  refine K_then ?_
  refine J_block ?_
  refine J_loop (X := Nat) (fun k => [(0, .pointer (some (ad r 0))), (1, .bool true), (5, .int .i64 ((hs (q.take k)).length : Int)), (6, .int .i64 k)]) (fun k => (sep (cel r [.slice A q.length c, c1, c2, c3, c4, c5, c6, c7] 71) (sep (Own 93 3 (.slice A q.length c) q.length (flatT q)) (F)))) (fun k => k ≤ q.length) (fun k => q.length - k) (0) (Nat.zero_le _) ⟨rfl, rfl, rfl, rfl, trivial⟩ (Ent.refl _) (fun k hk => ?_)
  have hle := hs_le q k
  refine J_seq ?_
  refine J_seq ?_
  refine J_region ?_
  refine L_v (opv_move rfl) rfl ?_
  refine L_v (opv_move rfl) rfl ?_
  refine L_v (opv_nilCheck rfl) rfl ?_
  first
    | refine L_v (opv_fieldAddr0 rfl) rfl ?_
    | refine L_v (opv_fieldAddr rfl) rfl ?_
  refine L_v (opv_load rfl (Rd.look rfl)) rfl ?_
  first
    | refine L_v (opv_lenL rfl) rfl ?_
    | refine L_v (opv_lenS rfl) rfl ?_
  refine L_v (opv_lss rfl rfl) rfl ?_
  refine L_nil ?_
  refine K_then ?_
  refine J_cond rfl (fun h1 => ?_) (fun h1 => ?_)
  · have hkl : k < q.length := by omega
    obtain ⟨x, hx⟩ : ∃ x, q[k]? = some x := ⟨_, List.getElem?_eq_getElem hkl⟩
    obtain ⟨b, o, rfl⟩ : ∃ b o, A = some (ad b o) := by rcases hA with ⟨_, _, h, _⟩ | h; omega; exact h
    refine J_skip ?_
    refine K_then ?_
    refine J_seq ?_
    refine J_block ?_
    refine J_seq ?_
    refine J_region ?_
    refine L_v (opv_move rfl) rfl ?_
    refine L_v (opv_nilCheck rfl) rfl ?_
    first
      | refine L_v (opv_fieldAddr0 rfl) rfl ?_
      | refine L_v (opv_fieldAddr rfl) rfl ?_
    refine L_v (opv_load rfl (Rd.look rfl)) rfl ?_
    refine L_v (opv_move rfl) rfl ?_
    first
      | refine L_v (opv_indexAddr rfl rfl (by omega)) rfl ?_
      | refine L_v (opv_indexAddrA rfl rfl (by omega)) rfl ?_
    first
      | refine L_v (opv_fieldAddr0 rfl) rfl ?_
      | refine L_v (opv_fieldAddr rfl) rfl ?_
    refine L_v (opv_load rfl (Rd.of_take (S := Own 93 3 (.slice (some (ad b o)) q.length c) q.length (flatT q)) ((RdS.own (m := 3) (e := 93) (c := c) encT_len (.inr ⟨b, o, rfl⟩)).rd b o rfl k x 0 _ hx rfl))) rfl ?_
    refine L_v (opv_move rfl) rfl ?_
    refine L_v ((opv_eqlB rfl rfl).as (v' := .bool (x.hi)) (by cases x.hi <;> rfl)) rfl ?_
    refine L_nil ?_
    refine K_then ?_
    refine J_cond_bool rfl (fun h2 => ?_) (fun h2 => ?_)
    · refine J_region ?_
      refine L_v (opv_move rfl) rfl ?_
      first
        | refine L_v (opv_add64 rfl rfl (by omega)) rfl ?_
        | refine L_v (opv_addS rfl rfl (by omega)) rfl ?_
        | refine L_v (opv_add rfl rfl) rfl ?_
      refine L_v (opv_assign rfl) rfl ?_
      refine L_nil ?_
      refine K_block ?_
      refine K_then ?_
      refine J_region ?_
      refine L_v (opv_move rfl) rfl ?_
      first
        | refine L_v (opv_add64 rfl rfl (by omega)) rfl ?_
        | refine L_v (opv_addS rfl rfl (by omega)) rfl ?_
        | refine L_v (opv_add rfl rfl) rfl ?_
      refine L_v (opv_assign rfl) rfl ?_
      refine L_nil ?_
      have e2 := (hs_one_t h2).1
      have e1 : (hs (q.take (k + 1))).length = (hs (q.take k)).length + 1 := by rw [take_snoc hx, hs_app, e2, List.length_append]; rfl
      exact K_loop (k + 1) (by omega) (by omega) ⟨rfl, rfl, congrArg (fun m : Int => some (Value.int .i64 m)) (by show _ = ((hs (q.take (k + 1))).length : Int); omega), rfl, trivial⟩ (Ent.refl _)
    · refine J_skip ?_
      refine K_block ?_
      refine K_then ?_
      refine J_region ?_
      refine L_v (opv_move rfl) rfl ?_
      first
        | refine L_v (opv_add64 rfl rfl (by omega)) rfl ?_
        | refine L_v (opv_addS rfl rfl (by omega)) rfl ?_
        | refine L_v (opv_add rfl rfl) rfl ?_
      refine L_v (opv_assign rfl) rfl ?_
      refine L_nil ?_
      have e2 := (hs_one_f (by simpa using h2)).1
      have e1 : (hs (q.take (k + 1))).length = (hs (q.take k)).length + 0 := by rw [take_snoc hx, hs_app, e2, List.length_append]; rfl
      exact K_loop (k + 1) (by omega) (by omega) ⟨rfl, rfl, congrArg (fun m : Int => some (Value.int .i64 m)) (by show _ = ((hs (q.take (k + 1))).length : Int); omega), rfl, trivial⟩ (Ent.refl _)
  · refine J_exit ?_
    refine K_then_exit ?_
    refine K_then_exit ?_
    refine K_block_here ?_
    refine K_then ?_
    refine J_seq ?_
    refine J_region ?_
    refine L_v (opv_move rfl) rfl ?_
    refine L_v (opv_assign rfl) rfl ?_
    refine L_nil ?_
    refine K_then ?_
    refine J_ret ?_
    have he : k = q.length := by omega
    exact K_ret1 rfl rfl () trivial (by rw [he, List.take_length]) (Ent.of (sep_assoc _ _ _).symm)

theorem TCount_false (r : Nat) (c1 c2 c3 c4 c5 c6 c7 : Value) (q : List Tx) (A : Option Addr) (c : Nat) (hq : q.length ≤ 1000000000) : FSpec Try.prog 39 #[.pointer (some (ad r 0)), .bool false] ((sep (cel r [.slice A q.length c, c1, c2, c3, c4, c5, c6, c7] 71) (Own 93 3 (.slice A q.length c) q.length (flatT q)))) (fun _ : Unit => True) (fun _ => .int .i64 ((ls q).length : Int)) (fun _ => (sep (cel r [.slice A q.length c, c1, c2, c3, c4, c5, c6, c7] 71) (Own 93 3 (.slice A q.length c) q.length (flatT q)))) := by
  refine FSpec.enter' Try.func39 rfl Try.ntmps39 rfl fun σ F => ?_
  refine J_eq _ (sep_assoc _ _ _) ?_
  refine J_know (fun w hs => own_nonnil hs.drop) fun hA => ?_
  refine J_seq ?_
  refine J_region ?_
  refine L_v (opv_assign rfl) rfl ?_
  refine L_nil ?_
  refine K_then ?_
  refine J_seq ?_
  refine J_region ?_
  refine L_v (opv_assign rfl) rfl ?_
  refine L_nil ?_
  refine K_then ?_
  refine J_seq ?_
  refine J_seq ?_
  refine J_region ?_
  refine L_v (opv_assign rfl) rfl ?_
  refine L_nil ?_
  refine K_then ?_
  refine J_block ?_
  refine J_loop (X := Nat) (fun k => [(0, .pointer (some (ad r 0))), (1, .bool false), (5, .int .i64 ((ls (q.take k)).length : Int)), (6, .int .i64 k)]) (fun k => (sep (cel r [.slice A q.length c, c1, c2, c3, c4, c5, c6, c7] 71) (sep (Own 93 3 (.slice A q.length c) q.length (flatT q)) (F)))) (fun k => k ≤ q.length) (fun k => q.length - k) (0) (Nat.zero_le _) ⟨rfl, rfl, rfl, rfl, trivial⟩ (Ent.refl _) (fun k hk => ?_)
  have hle := hs_le q k
  refine J_seq ?_
  refine J_seq ?_
  refine J_region ?_
  refine L_v (opv_move rfl) rfl ?_
  refine L_v (opv_move rfl) rfl ?_
  refine L_v (opv_nilCheck rfl) rfl ?_
  first
    | refine L_v (opv_fieldAddr0 rfl) rfl ?_
    | refine L_v (opv_fieldAddr rfl) rfl ?_
  refine L_v (opv_load rfl (Rd.look rfl)) rfl ?_
  first
    | refine L_v (opv_lenL rfl) rfl ?_
    | refine L_v (opv_lenS rfl) rfl ?_
  refine L_v (opv_lss rfl rfl) rfl ?_
  refine L_nil ?_
  refine K_then ?_
  refine J_cond rfl (fun h1 => ?_) (fun h1 => ?_)
  · have hkl : k < q.length := by omega
    obtain ⟨x, hx⟩ : ∃ x, q[k]? = some x := ⟨_, List.getElem?_eq_getElem hkl⟩
    obtain ⟨b, o, rfl⟩ : ∃ b o, A = some (ad b o) := by rcases hA with ⟨_, _, h, _⟩ | h; omega; exact h
    refine J_skip ?_
    refine K_then ?_
    refine J_seq ?_
    refine J_block ?_
    refine J_seq ?_
    refine J_region ?_
    refine L_v (opv_move rfl) rfl ?_
    refine L_v (opv_nilCheck rfl) rfl ?_
    first
      | refine L_v (opv_fieldAddr0 rfl) rfl ?_
      | refine L_v (opv_fieldAddr rfl) rfl ?_
    refine L_v (opv_load rfl (Rd.look rfl)) rfl ?_
    refine L_v (opv_move rfl) rfl ?_
    first
      | refine L_v (opv_indexAddr rfl rfl (by omega)) rfl ?_
      | refine L_v (opv_indexAddrA rfl rfl (by omega)) rfl ?_
    first
      | refine L_v (opv_fieldAddr0 rfl) rfl ?_
      | refine L_v (opv_fieldAddr rfl) rfl ?_
    refine L_v (opv_load rfl (Rd.of_take (S := Own 93 3 (.slice (some (ad b o)) q.length c) q.length (flatT q)) ((RdS.own (m := 3) (e := 93) (c := c) encT_len (.inr ⟨b, o, rfl⟩)).rd b o rfl k x 0 _ hx rfl))) rfl ?_
    refine L_v (opv_move rfl) rfl ?_
    refine L_v ((opv_eqlB rfl rfl).as (v' := .bool (!x.hi)) (by cases x.hi <;> rfl)) rfl ?_
    refine L_nil ?_
    refine K_then ?_
    refine J_cond_bool rfl (fun h2 => ?_) (fun h2 => ?_)
    · refine J_region ?_
      refine L_v (opv_move rfl) rfl ?_
      first
        | refine L_v (opv_add64 rfl rfl (by omega)) rfl ?_
        | refine L_v (opv_addS rfl rfl (by omega)) rfl ?_
        | refine L_v (opv_add rfl rfl) rfl ?_
      refine L_v (opv_assign rfl) rfl ?_
      refine L_nil ?_
      refine K_block ?_
      refine K_then ?_
      refine J_region ?_
      refine L_v (opv_move rfl) rfl ?_
      first
        | refine L_v (opv_add64 rfl rfl (by omega)) rfl ?_
        | refine L_v (opv_addS rfl rfl (by omega)) rfl ?_
        | refine L_v (opv_add rfl rfl) rfl ?_
      refine L_v (opv_assign rfl) rfl ?_
      refine L_nil ?_
      have e2 := (hs_one_f (by simpa using h2)).2
      have e1 : (ls (q.take (k + 1))).length = (ls (q.take k)).length + 1 := by rw [take_snoc hx, ls_app, e2, List.length_append]; rfl
      exact K_loop (k + 1) (by omega) (by omega) ⟨rfl, rfl, congrArg (fun m : Int => some (Value.int .i64 m)) (by show _ = ((ls (q.take (k + 1))).length : Int); omega), rfl, trivial⟩ (Ent.refl _)
    · refine J_skip ?_
      refine K_block ?_
      refine K_then ?_
      refine J_region ?_
      refine L_v (opv_move rfl) rfl ?_
      first
        | refine L_v (opv_add64 rfl rfl (by omega)) rfl ?_
        | refine L_v (opv_addS rfl rfl (by omega)) rfl ?_
        | refine L_v (opv_add rfl rfl) rfl ?_
      refine L_v (opv_assign rfl) rfl ?_
      refine L_nil ?_
      have e2 := (hs_one_t (by simpa using h2)).2
      have e1 : (ls (q.take (k + 1))).length = (ls (q.take k)).length + 0 := by rw [take_snoc hx, ls_app, e2, List.length_append]; rfl
      exact K_loop (k + 1) (by omega) (by omega) ⟨rfl, rfl, congrArg (fun m : Int => some (Value.int .i64 m)) (by show _ = ((ls (q.take (k + 1))).length : Int); omega), rfl, trivial⟩ (Ent.refl _)
  · refine J_exit ?_
    refine K_then_exit ?_
    refine K_then_exit ?_
    refine K_block_here ?_
    refine K_then ?_
    refine J_seq ?_
    refine J_region ?_
    refine L_v (opv_move rfl) rfl ?_
    refine L_v (opv_assign rfl) rfl ?_
    refine L_nil ?_
    refine K_then ?_
    refine J_ret ?_
    have he : k = q.length := by omega
    exact K_ret1 rfl rfl () trivial (by rw [he, List.take_length]) (Ent.of (sep_assoc _ _ _).symm)

theorem TOffer_err (r : Nat) (s : QS) (m0 m1 d0 d1 cur now id : Int) (text : ByteArray) (high : Bool) (h : tim cur now ≠ 0) : FSpec Try.prog 36 #[.pointer (some (ad r 0)), .int .i64 now, .bool high, .int .i64 id, .string text] (RefP r s m0 m1 d0 d1 cur) (fun _ : Unit => True) (fun _ => .int .i64 (tim cur now)) (fun _ => RefP r s m0 m1 d0 d1 cur) := by
  refine FSpec.enter' Try.func36 rfl Try.ntmps36 rfl fun σ F => ?_
  refine J_ex fun x => ?_
  refine J_eq _ (sep_assoc _ _ _) ?_
  refine J_lift fun hx => ?_
  refine J_eq (sep (cel r [.slice x.2.1.1 x.1.length x.2.1.2, .slice x.2.2.1.1 s.gl.length x.2.2.1.2, .slice x.2.2.2.1 s.out.length x.2.2.2.2, .int .i64 m0, .int .i64 m1, .int .i64 cur, .int .i64 d0, .int .i64 d1] 71) (sep (Own 93 3 (.slice x.2.1.1 x.1.length x.2.1.2) x.1.length (flatT x.1)) (sep (Own 48 4 (.slice x.2.2.1.1 s.gl.length x.2.2.1.2) s.gl.length (flat s.gl)) (sep (Own 48 4 (.slice x.2.2.2.1 s.out.length x.2.2.2.2) s.out.length (flat s.out)) (F))))) (by simp only [sep_assoc]) ?_
  refine J_seq ?_
  refine J_region ?_
  refine L_v (opv_assign rfl) rfl ?_
  refine L_nil ?_
  refine K_then ?_
  refine J_seq ?_
  refine J_region ?_
  refine L_v (opv_move rfl) rfl ?_
  refine L_v (opv_move rfl) rfl ?_
  refine L_x rfl (opx_call0 (Ttime_cel r (.slice x.2.1.1 x.1.length x.2.1.2) (.slice x.2.2.1.1 s.gl.length x.2.2.1.2) (.slice x.2.2.2.1 s.out.length x.2.2.2.2) (.int .i64 m0) (.int .i64 m1) (.int .i64 d0) (.int .i64 d1) cur now) rfl rfl rfl) (fun _ _ => ?_)
  refine L_v (opv_assign rfl) rfl ?_
  refine L_nil ?_
  refine K_then ?_
  refine J_seq ?_
  refine J_seq ?_
  refine J_region ?_
  refine L_v (opv_move rfl) rfl ?_
  refine L_v ((opv_neq rfl rfl).bool_t h) rfl ?_
  refine L_nil ?_
  refine K_then ?_
  refine J_cond_true rfl ?_
  refine J_seq ?_
  refine J_region ?_
  refine L_v (opv_move rfl) rfl ?_
  refine L_v (opv_assign rfl) rfl ?_
  refine L_nil ?_
  refine K_then ?_
  refine J_ret ?_
  refine K_then_ret ?_
  exact K_ret1 rfl rfl () trivial (rfl) (RefP.fold x.1 x.2.1 x.2.2.1 x.2.2.2 hx.1 hx.2)

theorem TOffer_long (r : Nat) (s : QS) (m0 m1 d0 d1 cur now id : Int) (text : ByteArray) (high : Bool) (h : tim cur now = 0) (hl : 1518 < (text.size : Int)) : FSpec Try.prog 36 #[.pointer (some (ad r 0)), .int .i64 now, .bool high, .int .i64 id, .string text] (RefP r s m0 m1 d0 d1 cur) (fun _ : Unit => True) (fun _ => .int .i64 11) (fun _ => RefP r s m0 m1 d0 d1 cur) := by
  refine FSpec.enter' Try.func36 rfl Try.ntmps36 rfl fun σ F => ?_
  refine J_ex fun x => ?_
  refine J_eq _ (sep_assoc _ _ _) ?_
  refine J_lift fun hx => ?_
  refine J_eq (sep (cel r [.slice x.2.1.1 x.1.length x.2.1.2, .slice x.2.2.1.1 s.gl.length x.2.2.1.2, .slice x.2.2.2.1 s.out.length x.2.2.2.2, .int .i64 m0, .int .i64 m1, .int .i64 cur, .int .i64 d0, .int .i64 d1] 71) (sep (Own 93 3 (.slice x.2.1.1 x.1.length x.2.1.2) x.1.length (flatT x.1)) (sep (Own 48 4 (.slice x.2.2.1.1 s.gl.length x.2.2.1.2) s.gl.length (flat s.gl)) (sep (Own 48 4 (.slice x.2.2.2.1 s.out.length x.2.2.2.2) s.out.length (flat s.out)) (F))))) (by simp only [sep_assoc]) ?_
  refine J_seq ?_
  refine J_region ?_
  refine L_v (opv_assign rfl) rfl ?_
  refine L_nil ?_
  refine K_then ?_
  refine J_seq ?_
  refine J_region ?_
  refine L_v (opv_move rfl) rfl ?_
  refine L_v (opv_move rfl) rfl ?_
  refine L_x rfl (opx_call0 (Ttime_cel r (.slice x.2.1.1 x.1.length x.2.1.2) (.slice x.2.2.1.1 s.gl.length x.2.2.1.2) (.slice x.2.2.2.1 s.out.length x.2.2.2.2) (.int .i64 m0) (.int .i64 m1) (.int .i64 d0) (.int .i64 d1) cur now) rfl rfl rfl) (fun _ _ => ?_)
  refine L_v (opv_assign rfl) rfl ?_
  refine L_nil ?_
  refine K_then ?_
  refine J_seq ?_
  refine J_seq ?_
  refine J_region ?_
  refine L_v (opv_move rfl) rfl ?_
  refine L_v ((opv_neq rfl rfl).bool_f (fun n => n h)) rfl ?_
  refine L_nil ?_
  refine K_then ?_
  refine J_cond_false rfl ?_
  refine J_skip ?_
  refine K_then ?_
  refine J_seq ?_
  refine J_seq ?_
  refine J_region ?_
  refine L_v (opv_move rfl) rfl ?_
  first
    | refine L_v (opv_lenL rfl) rfl ?_
    | refine L_v (opv_lenS rfl) rfl ?_
  refine L_v ((opv_gtr rfl rfl).bool_t hl) rfl ?_
  refine L_nil ?_
  refine K_then ?_
  refine J_cond_true rfl ?_
  refine J_seq ?_
  refine J_region ?_
  refine L_v (opv_assign rfl) rfl ?_
  refine L_nil ?_
  refine K_then ?_
  refine J_ret ?_
  refine K_then_ret ?_
  exact K_ret1 rfl rfl () trivial (rfl) (RefP.fold x.1 x.2.1 x.2.2.1 x.2.2.2 hx.1 hx.2)

theorem TOffer_go_true (r : Nat) (s : QS) (m0 m1 d0 d1 cur now id : Int) (text : ByteArray) (hl : ¬ 1518 < (text.size : Int)) (h0 : tim cur now = 0) (hok : s.ok) (hn : s.out.length + s.wt ≤ 1000000) (h l : List Wt) (go : Sn) (out : List Sn) (hS : s.run now = ⟨h, l, false, go, out⟩) : FSpec Try.prog 36 #[.pointer (some (ad r 0)), .int .i64 now, .bool true, .int .i64 id, .string text] (RefP r s m0 m1 d0 d1 cur) (fun _ : Unit => True) (fun _ => .int .i64 0) (fun _ => RefP r ⟨h, l, true, goes ⟨id, text⟩ now, out⟩ m0 m1 d0 d1 now) := by
  have hb : 0 ≤ now ∧ now ≤ 1125899906842624 := tim_bd h0
  have hsum := QS.run_wt s now
  have hrok := QS.ok_run (now := now) hok
  rw [hS] at hsum hrok
  refine FSpec.enter' Try.func36 rfl Try.ntmps36 rfl fun σ F => ?_
  refine J_ex fun x => ?_
  refine J_eq _ (sep_assoc _ _ _) ?_
  refine J_lift fun hx => ?_
  refine J_eq (sep (cel r [.slice x.2.1.1 x.1.length x.2.1.2, .slice x.2.2.1.1 s.gl.length x.2.2.1.2, .slice x.2.2.2.1 s.out.length x.2.2.2.2, .int .i64 m0, .int .i64 m1, .int .i64 cur, .int .i64 d0, .int .i64 d1] 71) (sep (Own 93 3 (.slice x.2.1.1 x.1.length x.2.1.2) x.1.length (flatT x.1)) (sep (Own 48 4 (.slice x.2.2.1.1 s.gl.length x.2.2.1.2) s.gl.length (flat s.gl)) (sep (Own 48 4 (.slice x.2.2.2.1 s.out.length x.2.2.2.2) s.out.length (flat s.out)) (F))))) (by simp only [sep_assoc]) ?_
  refine J_seq ?_
  refine J_region ?_
  refine L_v (opv_assign rfl) rfl ?_
  refine L_nil ?_
  refine K_then ?_
  refine J_seq ?_
  refine J_region ?_
  refine L_v (opv_move rfl) rfl ?_
  refine L_v (opv_move rfl) rfl ?_
  refine L_x rfl (opx_call0 (Ttime_cel r (.slice x.2.1.1 x.1.length x.2.1.2) (.slice x.2.2.1.1 s.gl.length x.2.2.1.2) (.slice x.2.2.2.1 s.out.length x.2.2.2.2) (.int .i64 m0) (.int .i64 m1) (.int .i64 d0) (.int .i64 d1) cur now) rfl rfl rfl) (fun _ _ => ?_)
  refine L_v (opv_assign rfl) rfl ?_
  refine L_nil ?_
  refine K_then ?_
  refine J_seq ?_
  refine J_seq ?_
  refine J_region ?_
  refine L_v (opv_move rfl) rfl ?_
  refine L_v ((opv_neq rfl rfl).bool_f (fun n => n h0)) rfl ?_
  refine L_nil ?_
  refine K_then ?_
  refine J_cond_false rfl ?_
  refine J_skip ?_
  refine K_then ?_
  refine J_seq ?_
  refine J_seq ?_
  refine J_region ?_
  refine L_v (opv_move rfl) rfl ?_
  first
    | refine L_v (opv_lenL rfl) rfl ?_
    | refine L_v (opv_lenS rfl) rfl ?_
  refine L_v ((opv_gtr rfl rfl).bool_f hl) rfl ?_
  refine L_nil ?_
  refine K_then ?_
  refine J_cond_false rfl ?_
  refine J_skip ?_
  refine K_then ?_
  refine J_seq ?_
  refine J_region ?_
  refine L_v (opv_move rfl) rfl ?_
  refine L_v (opv_move rfl) rfl ?_
  refine L_imp (sep (RefP r s m0 m1 d0 d1 cur) (F)) (RefP.fold x.1 x.2.1 x.2.2.1 x.2.2.2 hx.1 hx.2) ?_
  refine L_x rfl (opx_call0 (Tgoes_spec r s m0 m1 d0 d1 cur now (by omega) hok hn) rfl rfl rfl) (fun _ _ => ?_)
  refine L_nil ?_
  refine K_then ?_
  refine J_seq ?_
  refine J_region ?_
  refine L_v (opv_move rfl) rfl ?_
  refine L_v (opv_move rfl) rfl ?_
  refine L_v (opv_move rfl) rfl ?_
  refine L_v (opv_build rfl) rfl ?_
  refine L_x rfl (opx_alloc rfl) (fun b12 _ => ?_)
  refine L_x rfl (opx_store rfl rfl rfl (by simp [Value.oneCell'])) (fun _ _ => ?_)
  refine L_nil ?_
  refine K_then ?_
  refine J_seq ?_
  refine J_seq ?_
  refine J_eq _ (sep_left_comm _ _ _) ?_
  rw [hS]
  refine J_pre _ _ (fun w hs => RefP.sat0 hs) fun x hx => ?_
  obtain ⟨q, ⟨A, c⟩, ⟨gA, gc⟩, ⟨oA, oc⟩⟩ := x
  obtain ⟨⟨hh, hl2⟩, hA, hcap⟩ := hx
  dsimp only at hh hl2 hA hcap
  refine J_eq (sep (cel r [.slice A q.length c, .slice gA 0 gc, .slice oA out.length oc, .int .i64 m0, .int .i64 m1, .int .i64 now, .int .i64 d0, .int .i64 d1] 71) (sep (Own 93 3 (.slice A q.length c) q.length (flatT q)) (sep (Own 48 4 (.slice gA 0 gc) 0 []) (sep (Own 48 4 (.slice oA out.length oc) out.length (flat out)) (sep (cel b12 [.bool true, .int .i64 id, .string text] 93) (F)))))) rfl ?_
  refine J_region ?_
  refine L_v (opv_move rfl) rfl ?_
  refine L_v (opv_nilCheck rfl) rfl ?_
  first
    | refine L_v (opv_fieldAddr0 rfl) rfl ?_
    | refine L_v (opv_fieldAddr rfl) rfl ?_
  refine L_v (opv_load rfl (Rd.look rfl)) rfl ?_
  first
    | refine L_v (opv_lenL rfl) rfl ?_
    | refine L_v (opv_lenS rfl) rfl ?_
  refine L_v ((opv_eql rfl rfl).bool_t rfl) rfl ?_
  refine L_nil ?_
  refine K_then ?_
  refine J_cond_true rfl ?_
  refine J_seq ?_
  refine J_region ?_
  refine L_v (opv_move rfl) rfl ?_
  refine L_v (opv_move rfl) rfl ?_
  refine L_v (opv_loadS rfl) rfl ?_
  refine L_x rfl (opx_call0 (Tbegin_cel r (.slice A q.length c) (.slice gA 0 gc) (.slice oA out.length oc) (.int .i64 m0) (.int .i64 m1) (.int .i64 now) (.int .i64 d0) (.int .i64 d1) now (⟨true, id, text⟩ : Tx) (by omega) (by show text.size ≤ 1518; omega)) rfl rfl rfl) (fun b38 _ => ?_)
  refine L_nil ?_
  refine K_then ?_
  refine J_seq ?_
  refine J_region ?_
  refine L_v (opv_assign rfl) rfl ?_
  refine L_nil ?_
  refine K_then ?_
  refine J_ret ?_
  refine K_then_ret ?_
  exact K_ret1 rfl rfl () trivial (rfl) (Ent.trans (Ent.take (Q := (sep (cel r [.slice A q.length c, .slice (some (ad b38 0)) 1 1, .slice oA out.length oc, .int .i64 m0, .int .i64 m1, .int .i64 now, .int .i64 d0, .int .i64 d1] 71) (sep (Own 93 3 (.slice A q.length c) q.length (flatT q)) (sep (cel b38 [.int .i64 id, .string text, .int .i64 now, .int .i64 (now + ((text.size : Int) + 20))] 48) (sep (Own 48 4 (.slice oA out.length oc) out.length (flat out)) (F))))))) (RefP.fold1 (go := goes ⟨id, text⟩ now) q (A, c) (oA, oc) hh hl2))

theorem TOffer_full_true (r : Nat) (s : QS) (m0 m1 d0 d1 cur now id : Int) (text : ByteArray) (hl : ¬ 1518 < (text.size : Int)) (h0 : tim cur now = 0) (hok : s.ok) (hn : s.out.length + s.wt ≤ 1000000) (h l : List Wt) (go : Sn) (out : List Sn) (hS : s.run now = ⟨h, l, true, go, out⟩) (hf : m0 ≤ (h.length : Int)) (hd : -1000000000 ≤ d0 ∧ d0 ≤ 1000000000) : FSpec Try.prog 36 #[.pointer (some (ad r 0)), .int .i64 now, .bool true, .int .i64 id, .string text] (RefP r s m0 m1 d0 d1 cur) (fun _ : Unit => True) (fun _ => .int .i64 22) (fun _ => RefP r ⟨h, l, true, go, out⟩ m0 m1 (d0 + 1) d1 now) := by
  have hb : 0 ≤ now ∧ now ≤ 1125899906842624 := tim_bd h0
  have hsum := QS.run_wt s now
  have hrok := QS.ok_run (now := now) hok
  rw [hS] at hsum hrok
  refine FSpec.enter' Try.func36 rfl Try.ntmps36 rfl fun σ F => ?_
  refine J_ex fun x => ?_
  refine J_eq _ (sep_assoc _ _ _) ?_
  refine J_lift fun hx => ?_
  refine J_eq (sep (cel r [.slice x.2.1.1 x.1.length x.2.1.2, .slice x.2.2.1.1 s.gl.length x.2.2.1.2, .slice x.2.2.2.1 s.out.length x.2.2.2.2, .int .i64 m0, .int .i64 m1, .int .i64 cur, .int .i64 d0, .int .i64 d1] 71) (sep (Own 93 3 (.slice x.2.1.1 x.1.length x.2.1.2) x.1.length (flatT x.1)) (sep (Own 48 4 (.slice x.2.2.1.1 s.gl.length x.2.2.1.2) s.gl.length (flat s.gl)) (sep (Own 48 4 (.slice x.2.2.2.1 s.out.length x.2.2.2.2) s.out.length (flat s.out)) (F))))) (by simp only [sep_assoc]) ?_
  refine J_seq ?_
  refine J_region ?_
  refine L_v (opv_assign rfl) rfl ?_
  refine L_nil ?_
  refine K_then ?_
  refine J_seq ?_
  refine J_region ?_
  refine L_v (opv_move rfl) rfl ?_
  refine L_v (opv_move rfl) rfl ?_
  refine L_x rfl (opx_call0 (Ttime_cel r (.slice x.2.1.1 x.1.length x.2.1.2) (.slice x.2.2.1.1 s.gl.length x.2.2.1.2) (.slice x.2.2.2.1 s.out.length x.2.2.2.2) (.int .i64 m0) (.int .i64 m1) (.int .i64 d0) (.int .i64 d1) cur now) rfl rfl rfl) (fun _ _ => ?_)
  refine L_v (opv_assign rfl) rfl ?_
  refine L_nil ?_
  refine K_then ?_
  refine J_seq ?_
  refine J_seq ?_
  refine J_region ?_
  refine L_v (opv_move rfl) rfl ?_
  refine L_v ((opv_neq rfl rfl).bool_f (fun n => n h0)) rfl ?_
  refine L_nil ?_
  refine K_then ?_
  refine J_cond_false rfl ?_
  refine J_skip ?_
  refine K_then ?_
  refine J_seq ?_
  refine J_seq ?_
  refine J_region ?_
  refine L_v (opv_move rfl) rfl ?_
  first
    | refine L_v (opv_lenL rfl) rfl ?_
    | refine L_v (opv_lenS rfl) rfl ?_
  refine L_v ((opv_gtr rfl rfl).bool_f hl) rfl ?_
  refine L_nil ?_
  refine K_then ?_
  refine J_cond_false rfl ?_
  refine J_skip ?_
  refine K_then ?_
  refine J_seq ?_
  refine J_region ?_
  refine L_v (opv_move rfl) rfl ?_
  refine L_v (opv_move rfl) rfl ?_
  refine L_imp (sep (RefP r s m0 m1 d0 d1 cur) (F)) (RefP.fold x.1 x.2.1 x.2.2.1 x.2.2.2 hx.1 hx.2) ?_
  refine L_x rfl (opx_call0 (Tgoes_spec r s m0 m1 d0 d1 cur now (by omega) hok hn) rfl rfl rfl) (fun _ _ => ?_)
  refine L_nil ?_
  refine K_then ?_
  refine J_seq ?_
  refine J_region ?_
  refine L_v (opv_move rfl) rfl ?_
  refine L_v (opv_move rfl) rfl ?_
  refine L_v (opv_move rfl) rfl ?_
  refine L_v (opv_build rfl) rfl ?_
  refine L_x rfl (opx_alloc rfl) (fun b12 _ => ?_)
  refine L_x rfl (opx_store rfl rfl rfl (by simp [Value.oneCell'])) (fun _ _ => ?_)
  refine L_nil ?_
  refine K_then ?_
  refine J_seq ?_
  refine J_seq ?_
  refine J_eq _ (sep_left_comm _ _ _) ?_
  rw [hS]
  refine J_pre _ _ (fun w hs => RefP.sat1 hs) fun x hx => ?_
  obtain ⟨q, ⟨A, c⟩, ⟨gb, gq, gc⟩, ⟨oA, oc⟩⟩ := x
  obtain ⟨⟨hh, hl2⟩, hA, hcap⟩ := hx
  dsimp only at hh hl2 hA hcap
  refine J_eq (sep (cel r [.slice A q.length c, .slice (some (ad gb gq)) 1 gc, .slice oA out.length oc, .int .i64 m0, .int .i64 m1, .int .i64 now, .int .i64 d0, .int .i64 d1] 71) (sep (Own 93 3 (.slice A q.length c) q.length (flatT q)) (sep (Own 48 4 (.slice (some (ad gb gq)) 1 gc) 1 (flat [go])) (sep (Own 48 4 (.slice oA out.length oc) out.length (flat out)) (sep (cel b12 [.bool true, .int .i64 id, .string text] 93) (F)))))) rfl ?_
  have hlen := len_hl q
  rw [hh, hl2] at hlen
  have hw := QS.wt_true h l go out
  dsimp only at hsum
  have hfq : m0 ≤ ((hs q).length : Int) := by rw [hh]; exact hf
  refine J_region ?_
  refine L_v (opv_move rfl) rfl ?_
  refine L_v (opv_nilCheck rfl) rfl ?_
  first
    | refine L_v (opv_fieldAddr0 rfl) rfl ?_
    | refine L_v (opv_fieldAddr rfl) rfl ?_
  refine L_v (opv_load rfl (Rd.look rfl)) rfl ?_
  first
    | refine L_v (opv_lenL rfl) rfl ?_
    | refine L_v (opv_lenS rfl) rfl ?_
  refine L_v ((opv_eql rfl rfl).bool_f (by decide)) rfl ?_
  refine L_nil ?_
  refine K_then ?_
  refine J_cond_false rfl ?_
  refine J_skip ?_
  refine K_then ?_
  refine J_seq ?_
  refine J_seq ?_
  refine J_quiet Try.mixed (by kernel_rfl) ?_
  refine Q_v (opv_move rfl) rfl ?_
  refine Q_v (opv_move rfl) rfl ?_
  refine Q_gon rfl rfl rfl ?_
  refine Q_v (opv_move rfl) rfl ?_
  refine Q_gon rfl rfl rfl ?_
  refine Q_call (TCount_true r (.slice (some (ad gb gq)) 1 gc) (.slice oA out.length oc) (.int .i64 m0) (.int .i64 m1) (.int .i64 now) (.int .i64 d0) (.int .i64 d1) q A c (by omega)) rfl rfl (fun _ _ => rfl) (fun _ _ => Ent.refl _) rfl ?_
  refine Q_gon rfl rfl rfl ?_
  refine Q_v (opv_move rfl) rfl ?_
  refine Q_gon rfl rfl rfl ?_
  refine Q_v (opv_nilCheck rfl) rfl ?_
  refine Q_gon rfl rfl rfl ?_
  first
    | refine Q_v (opv_fieldAddr0 rfl) rfl ?_
    | refine Q_v (opv_fieldAddr rfl) rfl ?_
  refine Q_gon rfl rfl rfl ?_
  refine Q_v (opv_load rfl (Rd.look rfl)) rfl ?_
  refine Q_gon rfl rfl rfl ?_
  refine Q_v ((opv_geq rfl rfl).bool_t (by omega)) rfl ?_
  first
    | refine Q_v (opv_pick_tt rfl rfl) rfl ?_
    | refine Q_v (opv_pick_ff rfl rfl) rfl ?_
    | refine Q_v (opv_pick rfl rfl rfl) rfl ?_
  refine QL_nil ?_
  refine K_then ?_
  refine J_cond_true rfl ?_
  refine J_seq ?_
  refine J_region ?_
  refine L_v (opv_move rfl) rfl ?_
  refine L_v (opv_move rfl) rfl ?_
  refine L_v (opv_nilCheck rfl) rfl ?_
  first
    | refine L_v (opv_fieldAddr0 rfl) rfl ?_
    | refine L_v (opv_fieldAddr rfl) rfl ?_
  refine L_v (opv_load rfl (Rd.look rfl)) rfl ?_
  first
    | refine L_v (opv_add64 rfl rfl (by omega)) rfl ?_
    | refine L_v (opv_addS rfl rfl (by omega)) rfl ?_
    | refine L_v (opv_add rfl rfl) rfl ?_
  refine L_v (opv_nilCheck rfl) rfl ?_
  first
    | refine L_v (opv_fieldAddr0 rfl) rfl ?_
    | refine L_v (opv_fieldAddr rfl) rfl ?_
  refine L_x rfl (opx_store rfl rfl rfl (by simp [Value.oneCell'])) (fun _ _ => ?_)
  refine L_nil ?_
  refine K_then ?_
  refine J_seq ?_
  refine J_region ?_
  refine L_v (opv_assign rfl) rfl ?_
  refine L_nil ?_
  refine K_then ?_
  refine J_ret ?_
  refine K_then_ret ?_
  exact K_ret1 rfl rfl () trivial (rfl) (Ent.trans (Ent.take (Q := (sep (cel r [.slice A q.length c, .slice (some (ad gb gq)) 1 gc, .slice oA out.length oc, .int .i64 m0, .int .i64 m1, .int .i64 now, .int .i64 (d0 + 1), .int .i64 d1] 71) (sep (Own 93 3 (.slice A q.length c) q.length (flatT q)) (sep (Own 48 4 (.slice (some (ad gb gq)) 1 gc) 1 (flat [go])) (sep (Own 48 4 (.slice oA out.length oc) out.length (flat out)) (F))))))) (RefP.fold (s := ⟨h, l, true, go, out⟩) q (A, c) (some (ad gb gq), gc) (oA, oc) hh hl2))

theorem TOffer_wait_true (r : Nat) (s : QS) (m0 m1 d0 d1 cur now id : Int) (text : ByteArray) (hl : ¬ 1518 < (text.size : Int)) (h0 : tim cur now = 0) (hok : s.ok) (hn : s.out.length + s.wt ≤ 1000000) (h l : List Wt) (go : Sn) (out : List Sn) (hS : s.run now = ⟨h, l, true, go, out⟩) (hf : ¬ m0 ≤ (h.length : Int)) : FSpec Try.prog 36 #[.pointer (some (ad r 0)), .int .i64 now, .bool true, .int .i64 id, .string text] (RefP r s m0 m1 d0 d1 cur) (fun _ : Unit => True) (fun _ => .int .i64 0) (fun _ => RefP r ⟨h ++ [⟨id, text⟩], l, true, go, out⟩ m0 m1 d0 d1 now) := by
  have hb : 0 ≤ now ∧ now ≤ 1125899906842624 := tim_bd h0
  have hsum := QS.run_wt s now
  have hrok := QS.ok_run (now := now) hok
  rw [hS] at hsum hrok
  refine FSpec.enter' Try.func36 rfl Try.ntmps36 rfl fun σ F => ?_
  refine J_ex fun x => ?_
  refine J_eq _ (sep_assoc _ _ _) ?_
  refine J_lift fun hx => ?_
  refine J_eq (sep (cel r [.slice x.2.1.1 x.1.length x.2.1.2, .slice x.2.2.1.1 s.gl.length x.2.2.1.2, .slice x.2.2.2.1 s.out.length x.2.2.2.2, .int .i64 m0, .int .i64 m1, .int .i64 cur, .int .i64 d0, .int .i64 d1] 71) (sep (Own 93 3 (.slice x.2.1.1 x.1.length x.2.1.2) x.1.length (flatT x.1)) (sep (Own 48 4 (.slice x.2.2.1.1 s.gl.length x.2.2.1.2) s.gl.length (flat s.gl)) (sep (Own 48 4 (.slice x.2.2.2.1 s.out.length x.2.2.2.2) s.out.length (flat s.out)) (F))))) (by simp only [sep_assoc]) ?_
  refine J_seq ?_
  refine J_region ?_
  refine L_v (opv_assign rfl) rfl ?_
  refine L_nil ?_
  refine K_then ?_
  refine J_seq ?_
  refine J_region ?_
  refine L_v (opv_move rfl) rfl ?_
  refine L_v (opv_move rfl) rfl ?_
  refine L_x rfl (opx_call0 (Ttime_cel r (.slice x.2.1.1 x.1.length x.2.1.2) (.slice x.2.2.1.1 s.gl.length x.2.2.1.2) (.slice x.2.2.2.1 s.out.length x.2.2.2.2) (.int .i64 m0) (.int .i64 m1) (.int .i64 d0) (.int .i64 d1) cur now) rfl rfl rfl) (fun _ _ => ?_)
  refine L_v (opv_assign rfl) rfl ?_
  refine L_nil ?_
  refine K_then ?_
  refine J_seq ?_
  refine J_seq ?_
  refine J_region ?_
  refine L_v (opv_move rfl) rfl ?_
  refine L_v ((opv_neq rfl rfl).bool_f (fun n => n h0)) rfl ?_
  refine L_nil ?_
  refine K_then ?_
  refine J_cond_false rfl ?_
  refine J_skip ?_
  refine K_then ?_
  refine J_seq ?_
  refine J_seq ?_
  refine J_region ?_
  refine L_v (opv_move rfl) rfl ?_
  first
    | refine L_v (opv_lenL rfl) rfl ?_
    | refine L_v (opv_lenS rfl) rfl ?_
  refine L_v ((opv_gtr rfl rfl).bool_f hl) rfl ?_
  refine L_nil ?_
  refine K_then ?_
  refine J_cond_false rfl ?_
  refine J_skip ?_
  refine K_then ?_
  refine J_seq ?_
  refine J_region ?_
  refine L_v (opv_move rfl) rfl ?_
  refine L_v (opv_move rfl) rfl ?_
  refine L_imp (sep (RefP r s m0 m1 d0 d1 cur) (F)) (RefP.fold x.1 x.2.1 x.2.2.1 x.2.2.2 hx.1 hx.2) ?_
  refine L_x rfl (opx_call0 (Tgoes_spec r s m0 m1 d0 d1 cur now (by omega) hok hn) rfl rfl rfl) (fun _ _ => ?_)
  refine L_nil ?_
  refine K_then ?_
  refine J_seq ?_
  refine J_region ?_
  refine L_v (opv_move rfl) rfl ?_
  refine L_v (opv_move rfl) rfl ?_
  refine L_v (opv_move rfl) rfl ?_
  refine L_v (opv_build rfl) rfl ?_
  refine L_x rfl (opx_alloc rfl) (fun b12 _ => ?_)
  refine L_x rfl (opx_store rfl rfl rfl (by simp [Value.oneCell'])) (fun _ _ => ?_)
  refine L_nil ?_
  refine K_then ?_
  refine J_seq ?_
  refine J_seq ?_
  refine J_eq _ (sep_left_comm _ _ _) ?_
  rw [hS]
  refine J_pre _ _ (fun w hs => RefP.sat1 hs) fun x hx => ?_
  obtain ⟨q, ⟨A, c⟩, ⟨gb, gq, gc⟩, ⟨oA, oc⟩⟩ := x
  obtain ⟨⟨hh, hl2⟩, hA, hcap⟩ := hx
  dsimp only at hh hl2 hA hcap
  refine J_eq (sep (cel r [.slice A q.length c, .slice (some (ad gb gq)) 1 gc, .slice oA out.length oc, .int .i64 m0, .int .i64 m1, .int .i64 now, .int .i64 d0, .int .i64 d1] 71) (sep (Own 93 3 (.slice A q.length c) q.length (flatT q)) (sep (Own 48 4 (.slice (some (ad gb gq)) 1 gc) 1 (flat [go])) (sep (Own 48 4 (.slice oA out.length oc) out.length (flat out)) (sep (cel b12 [.bool true, .int .i64 id, .string text] 93) (F)))))) rfl ?_
  have hlen := len_hl q
  rw [hh, hl2] at hlen
  have hw := QS.wt_true h l go out
  dsimp only at hsum
  have hfq : ¬ m0 ≤ ((hs q).length : Int) := by rw [hh]; exact hf
  refine J_region ?_
  refine L_v (opv_move rfl) rfl ?_
  refine L_v (opv_nilCheck rfl) rfl ?_
  first
    | refine L_v (opv_fieldAddr0 rfl) rfl ?_
    | refine L_v (opv_fieldAddr rfl) rfl ?_
  refine L_v (opv_load rfl (Rd.look rfl)) rfl ?_
  first
    | refine L_v (opv_lenL rfl) rfl ?_
    | refine L_v (opv_lenS rfl) rfl ?_
  refine L_v ((opv_eql rfl rfl).bool_f (by decide)) rfl ?_
  refine L_nil ?_
  refine K_then ?_
  refine J_cond_false rfl ?_
  refine J_skip ?_
  refine K_then ?_
  refine J_seq ?_
  refine J_seq ?_
  refine J_quiet Try.mixed (by kernel_rfl) ?_
  refine Q_v (opv_move rfl) rfl ?_
  refine Q_v (opv_move rfl) rfl ?_
  refine Q_gon rfl rfl rfl ?_
  refine Q_v (opv_move rfl) rfl ?_
  refine Q_gon rfl rfl rfl ?_
  refine Q_call (TCount_true r (.slice (some (ad gb gq)) 1 gc) (.slice oA out.length oc) (.int .i64 m0) (.int .i64 m1) (.int .i64 now) (.int .i64 d0) (.int .i64 d1) q A c (by omega)) rfl rfl (fun _ _ => rfl) (fun _ _ => Ent.refl _) rfl ?_
  refine Q_gon rfl rfl rfl ?_
  refine Q_v (opv_move rfl) rfl ?_
  refine Q_gon rfl rfl rfl ?_
  refine Q_v (opv_nilCheck rfl) rfl ?_
  refine Q_gon rfl rfl rfl ?_
  first
    | refine Q_v (opv_fieldAddr0 rfl) rfl ?_
    | refine Q_v (opv_fieldAddr rfl) rfl ?_
  refine Q_gon rfl rfl rfl ?_
  refine Q_v (opv_load rfl (Rd.look rfl)) rfl ?_
  refine Q_gon rfl rfl rfl ?_
  refine Q_v ((opv_geq rfl rfl).bool_f (by omega)) rfl ?_
  first
    | refine Q_v (opv_pick_tt rfl rfl) rfl ?_
    | refine Q_v (opv_pick_ff rfl rfl) rfl ?_
    | refine Q_v (opv_pick rfl rfl rfl) rfl ?_
  refine QL_nil ?_
  refine K_then ?_
  refine J_cond_false rfl ?_
  refine J_skip ?_
  refine K_then ?_
  refine J_seq ?_
  refine J_seq ?_
  refine J_quiet Try.mixed (by kernel_rfl) ?_
  refine Q_v (opv_move rfl) rfl ?_
  refine Q_v (opv_not rfl) rfl ?_
  refine Q_v (opv_move rfl) rfl ?_
  refine Q_gskip rfl rfl rfl ?_ (fun _ h => by cases h; rfl)
  refine Q_gskip rfl rfl rfl ?_ (fun _ h => by cases h; rfl)
  refine Q_gskip rfl rfl rfl ?_ (fun _ h => by cases h; rfl)
  refine Q_gskip rfl rfl rfl ?_ (fun _ h => by cases h; rfl)
  refine Q_gskip rfl rfl rfl ?_ (fun _ h => by cases h; rfl)
  refine Q_gskip rfl rfl rfl ?_ (fun _ h => by cases h; rfl)
  refine Q_gskip rfl rfl rfl ?_ (fun _ h => by cases h; rfl)
  first
    | refine Q_v (opv_pick_tt rfl rfl) rfl ?_
    | refine Q_v (opv_pick_ff rfl rfl) rfl ?_
    | refine Q_v (opv_pick rfl rfl rfl) rfl ?_
  refine QL_nil ?_
  refine K_then ?_
  refine J_cond_false rfl ?_
  refine J_skip ?_
  refine K_then ?_
  refine J_seq ?_
  refine J_steps (cel b12 [.bool true, .int .i64 id, .string text] 93) ((sep (cel b12 [.bool true, .int .i64 id, .string text] 93) (cel r [.slice A q.length c, .slice (some (ad gb gq)) 1 gc, .slice oA out.length oc, .int .i64 m0, .int .i64 m1, .int .i64 now, .int .i64 d0, .int .i64 d1] 71))) [10] Try.mixed ?_
  refine R_pure 0 rfl (by kernel_rfl) (by kernel_rfl) (by kernel_rfl) (by kernel_rfl) (.inr ⟨_, Take.eq (A := (sep (cel b12 [.bool true, .int .i64 id, .string text] 93) (cel r [.slice A q.length c, .slice (some (ad gb gq)) 1 gc, .slice oA out.length oc, .int .i64 m0, .int .i64 m1, .int .i64 now, .int .i64 d0, .int .i64 d1] 71)))⟩) (opv_move rfl) rfl ?_
  refine R_pure 1 rfl (by kernel_rfl) (by kernel_rfl) (by kernel_rfl) (by kernel_rfl) (.inr ⟨_, Take.eq (A := (sep (cel b12 [.bool true, .int .i64 id, .string text] 93) (cel r [.slice A q.length c, .slice (some (ad gb gq)) 1 gc, .slice oA out.length oc, .int .i64 m0, .int .i64 m1, .int .i64 now, .int .i64 d0, .int .i64 d1] 71)))⟩) (opv_move rfl) rfl ?_
  refine R_pure 2 rfl (by kernel_rfl) (by kernel_rfl) (by kernel_rfl) (by kernel_rfl) (.inr ⟨_, Take.eq (A := (sep (cel b12 [.bool true, .int .i64 id, .string text] 93) (cel r [.slice A q.length c, .slice (some (ad gb gq)) 1 gc, .slice oA out.length oc, .int .i64 m0, .int .i64 m1, .int .i64 now, .int .i64 d0, .int .i64 d1] 71)))⟩) (opv_nilCheck rfl) rfl ?_
  first
    | refine R_pure 3 rfl (by kernel_rfl) (by kernel_rfl) (by kernel_rfl) (by kernel_rfl) (.inr ⟨_, Take.eq (A := (sep (cel b12 [.bool true, .int .i64 id, .string text] 93) (cel r [.slice A q.length c, .slice (some (ad gb gq)) 1 gc, .slice oA out.length oc, .int .i64 m0, .int .i64 m1, .int .i64 now, .int .i64 d0, .int .i64 d1] 71)))⟩) (opv_fieldAddr0 rfl) rfl ?_
    | refine R_pure 3 rfl (by kernel_rfl) (by kernel_rfl) (by kernel_rfl) (by kernel_rfl) (.inr ⟨_, Take.eq (A := (sep (cel b12 [.bool true, .int .i64 id, .string text] 93) (cel r [.slice A q.length c, .slice (some (ad gb gq)) 1 gc, .slice oA out.length oc, .int .i64 m0, .int .i64 m1, .int .i64 now, .int .i64 d0, .int .i64 d1] 71)))⟩) (opv_fieldAddr rfl) rfl ?_
  refine R_take 4 rfl (by kernel_rfl) (by kernel_rfl) (by kernel_rfl) (by kernel_rfl) (by kernel_rfl) (opv_load rfl (Rd.look rfl)) rfl ?_
  refine R_take 5 rfl (by kernel_rfl) (by kernel_rfl) (by kernel_rfl) (by kernel_rfl) (by kernel_rfl) (opv_loadS rfl) rfl ?_
  refine R_only 6 rfl rfl (by kernel_rfl) (opx_buildSlice1 (m := 3) rfl rfl (by omega) (by omega) rfl) (fun _ _ => ⟨_, Take.eq (A := cel b12 [.bool true, .int .i64 id, .string text] 93)⟩) (.inr fun _ _ => ⟨_, Take.eq (A := (sep (cel b12 [.bool true, .int .i64 id, .string text] 93) (cel r [.slice A q.length c, .slice (some (ad gb gq)) 1 gc, .slice oA out.length oc, .int .i64 m0, .int .i64 m1, .int .i64 now, .int .i64 d0, .int .i64 d1] 71)))⟩) (fun b82 _ => ?_)
  refine R_only 7 rfl rfl (by kernel_rfl) (opx_append (m := 3) (B := 32) rfl rfl (Src.lit) rfl (by omega) rfl (by simp [Value.oneCell']) (by unfold maxLen; omega) (by omega) rfl) (fun _ _ => ⟨_, Take.eq (A := cel b12 [.bool true, .int .i64 id, .string text] 93)⟩) (.inr fun _ _ => ⟨_, Take.eq (A := (sep (cel b12 [.bool true, .int .i64 id, .string text] 93) (cel r [.slice A q.length c, .slice (some (ad gb gq)) 1 gc, .slice oA out.length oc, .int .i64 m0, .int .i64 m1, .int .i64 now, .int .i64 d0, .int .i64 d1] 71)))⟩) (fun y83 _ => ?_)
  refine R_pure 8 rfl (by kernel_rfl) (by kernel_rfl) (by kernel_rfl) (by kernel_rfl) (.inr ⟨_, Take.eq (A := (sep (cel b12 [.bool true, .int .i64 id, .string text] 93) (cel r [.slice A q.length c, .slice (some (ad gb gq)) 1 gc, .slice oA out.length oc, .int .i64 m0, .int .i64 m1, .int .i64 now, .int .i64 d0, .int .i64 d1] 71)))⟩) (opv_nilCheck rfl) rfl ?_
  first
    | refine R_pure 9 rfl (by kernel_rfl) (by kernel_rfl) (by kernel_rfl) (by kernel_rfl) (.inr ⟨_, Take.eq (A := (sep (cel b12 [.bool true, .int .i64 id, .string text] 93) (cel r [.slice A q.length c, .slice (some (ad gb gq)) 1 gc, .slice oA out.length oc, .int .i64 m0, .int .i64 m1, .int .i64 now, .int .i64 d0, .int .i64 d1] 71)))⟩) (opv_fieldAddr0 rfl) rfl ?_
    | refine R_pure 9 rfl (by kernel_rfl) (by kernel_rfl) (by kernel_rfl) (by kernel_rfl) (.inr ⟨_, Take.eq (A := (sep (cel b12 [.bool true, .int .i64 id, .string text] 93) (cel r [.slice A q.length c, .slice (some (ad gb gq)) 1 gc, .slice oA out.length oc, .int .i64 m0, .int .i64 m1, .int .i64 now, .int .i64 d0, .int .i64 d1] 71)))⟩) (opv_fieldAddr rfl) rfl ?_
  refine R_only 10 rfl rfl (by kernel_rfl) (opx_store rfl rfl rfl (by simp [Value.oneCell'])) (fun _ _ => ⟨_, Take.eq (A := cel b12 [.bool true, .int .i64 id, .string text] 93)⟩) (.inl (by kernel_rfl)) (fun _ _ => ?_)
  refine R_done (by kernel_rfl) ?_
  refine K_then ?_
  refine J_seq ?_
  refine J_region ?_
  refine L_v (opv_assign rfl) rfl ?_
  refine L_nil ?_
  refine K_then ?_
  refine J_ret ?_
  have hfl : flatT q ++ [.bool true, .int .i64 id, .string text] = flatT (q ++ [(⟨true, id, text⟩ : Tx)]) := flatT_snoc q (⟨true, id, text⟩ : Tx)
  rw [hfl, show q.length + 1 = (q ++ [(⟨true, id, text⟩ : Tx)]).length by simp]
  exact K_ret1 rfl rfl () trivial (rfl) (Ent.trans (Ent.take (Q := (sep (cel r [.slice y83.1 (q ++ [(⟨true, id, text⟩ : Tx)]).length y83.2, .slice (some (ad gb gq)) 1 gc, .slice oA out.length oc, .int .i64 m0, .int .i64 m1, .int .i64 now, .int .i64 d0, .int .i64 d1] 71) (sep (Own 93 3 (.slice y83.1 (q ++ [(⟨true, id, text⟩ : Tx)]).length y83.2) (q ++ [(⟨true, id, text⟩ : Tx)]).length (flatT (q ++ [(⟨true, id, text⟩ : Tx)]))) (sep (Own 48 4 (.slice (some (ad gb gq)) 1 gc) 1 (flat [go])) (sep (Own 48 4 (.slice oA out.length oc) out.length (flat out)) (F))))))) (RefP.fold (s := ⟨h ++ [⟨id, text⟩], l, true, go, out⟩) (q ++ [(⟨true, id, text⟩ : Tx)]) y83 (some (ad gb gq), gc) (oA, oc) (by rw [hs_app, hh, (hs_one_t (x := (⟨true, id, text⟩ : Tx)) rfl).1]) (by rw [ls_app, hl2, (hs_one_t (x := (⟨true, id, text⟩ : Tx)) rfl).2, List.append_nil])))

theorem TOffer_go_false (r : Nat) (s : QS) (m0 m1 d0 d1 cur now id : Int) (text : ByteArray) (hl : ¬ 1518 < (text.size : Int)) (h0 : tim cur now = 0) (hok : s.ok) (hn : s.out.length + s.wt ≤ 1000000) (h l : List Wt) (go : Sn) (out : List Sn) (hS : s.run now = ⟨h, l, false, go, out⟩) : FSpec Try.prog 36 #[.pointer (some (ad r 0)), .int .i64 now, .bool false, .int .i64 id, .string text] (RefP r s m0 m1 d0 d1 cur) (fun _ : Unit => True) (fun _ => .int .i64 0) (fun _ => RefP r ⟨h, l, true, goes ⟨id, text⟩ now, out⟩ m0 m1 d0 d1 now) := by
  have hb : 0 ≤ now ∧ now ≤ 1125899906842624 := tim_bd h0
  have hsum := QS.run_wt s now
  have hrok := QS.ok_run (now := now) hok
  rw [hS] at hsum hrok
  refine FSpec.enter' Try.func36 rfl Try.ntmps36 rfl fun σ F => ?_
  refine J_ex fun x => ?_
  refine J_eq _ (sep_assoc _ _ _) ?_
  refine J_lift fun hx => ?_
  refine J_eq (sep (cel r [.slice x.2.1.1 x.1.length x.2.1.2, .slice x.2.2.1.1 s.gl.length x.2.2.1.2, .slice x.2.2.2.1 s.out.length x.2.2.2.2, .int .i64 m0, .int .i64 m1, .int .i64 cur, .int .i64 d0, .int .i64 d1] 71) (sep (Own 93 3 (.slice x.2.1.1 x.1.length x.2.1.2) x.1.length (flatT x.1)) (sep (Own 48 4 (.slice x.2.2.1.1 s.gl.length x.2.2.1.2) s.gl.length (flat s.gl)) (sep (Own 48 4 (.slice x.2.2.2.1 s.out.length x.2.2.2.2) s.out.length (flat s.out)) (F))))) (by simp only [sep_assoc]) ?_
  refine J_seq ?_
  refine J_region ?_
  refine L_v (opv_assign rfl) rfl ?_
  refine L_nil ?_
  refine K_then ?_
  refine J_seq ?_
  refine J_region ?_
  refine L_v (opv_move rfl) rfl ?_
  refine L_v (opv_move rfl) rfl ?_
  refine L_x rfl (opx_call0 (Ttime_cel r (.slice x.2.1.1 x.1.length x.2.1.2) (.slice x.2.2.1.1 s.gl.length x.2.2.1.2) (.slice x.2.2.2.1 s.out.length x.2.2.2.2) (.int .i64 m0) (.int .i64 m1) (.int .i64 d0) (.int .i64 d1) cur now) rfl rfl rfl) (fun _ _ => ?_)
  refine L_v (opv_assign rfl) rfl ?_
  refine L_nil ?_
  refine K_then ?_
  refine J_seq ?_
  refine J_seq ?_
  refine J_region ?_
  refine L_v (opv_move rfl) rfl ?_
  refine L_v ((opv_neq rfl rfl).bool_f (fun n => n h0)) rfl ?_
  refine L_nil ?_
  refine K_then ?_
  refine J_cond_false rfl ?_
  refine J_skip ?_
  refine K_then ?_
  refine J_seq ?_
  refine J_seq ?_
  refine J_region ?_
  refine L_v (opv_move rfl) rfl ?_
  first
    | refine L_v (opv_lenL rfl) rfl ?_
    | refine L_v (opv_lenS rfl) rfl ?_
  refine L_v ((opv_gtr rfl rfl).bool_f hl) rfl ?_
  refine L_nil ?_
  refine K_then ?_
  refine J_cond_false rfl ?_
  refine J_skip ?_
  refine K_then ?_
  refine J_seq ?_
  refine J_region ?_
  refine L_v (opv_move rfl) rfl ?_
  refine L_v (opv_move rfl) rfl ?_
  refine L_imp (sep (RefP r s m0 m1 d0 d1 cur) (F)) (RefP.fold x.1 x.2.1 x.2.2.1 x.2.2.2 hx.1 hx.2) ?_
  refine L_x rfl (opx_call0 (Tgoes_spec r s m0 m1 d0 d1 cur now (by omega) hok hn) rfl rfl rfl) (fun _ _ => ?_)
  refine L_nil ?_
  refine K_then ?_
  refine J_seq ?_
  refine J_region ?_
  refine L_v (opv_move rfl) rfl ?_
  refine L_v (opv_move rfl) rfl ?_
  refine L_v (opv_move rfl) rfl ?_
  refine L_v (opv_build rfl) rfl ?_
  refine L_x rfl (opx_alloc rfl) (fun b12 _ => ?_)
  refine L_x rfl (opx_store rfl rfl rfl (by simp [Value.oneCell'])) (fun _ _ => ?_)
  refine L_nil ?_
  refine K_then ?_
  refine J_seq ?_
  refine J_seq ?_
  refine J_eq _ (sep_left_comm _ _ _) ?_
  rw [hS]
  refine J_pre _ _ (fun w hs => RefP.sat0 hs) fun x hx => ?_
  obtain ⟨q, ⟨A, c⟩, ⟨gA, gc⟩, ⟨oA, oc⟩⟩ := x
  obtain ⟨⟨hh, hl2⟩, hA, hcap⟩ := hx
  dsimp only at hh hl2 hA hcap
  refine J_eq (sep (cel r [.slice A q.length c, .slice gA 0 gc, .slice oA out.length oc, .int .i64 m0, .int .i64 m1, .int .i64 now, .int .i64 d0, .int .i64 d1] 71) (sep (Own 93 3 (.slice A q.length c) q.length (flatT q)) (sep (Own 48 4 (.slice gA 0 gc) 0 []) (sep (Own 48 4 (.slice oA out.length oc) out.length (flat out)) (sep (cel b12 [.bool false, .int .i64 id, .string text] 93) (F)))))) rfl ?_
  refine J_region ?_
  refine L_v (opv_move rfl) rfl ?_
  refine L_v (opv_nilCheck rfl) rfl ?_
  first
    | refine L_v (opv_fieldAddr0 rfl) rfl ?_
    | refine L_v (opv_fieldAddr rfl) rfl ?_
  refine L_v (opv_load rfl (Rd.look rfl)) rfl ?_
  first
    | refine L_v (opv_lenL rfl) rfl ?_
    | refine L_v (opv_lenS rfl) rfl ?_
  refine L_v ((opv_eql rfl rfl).bool_t rfl) rfl ?_
  refine L_nil ?_
  refine K_then ?_
  refine J_cond_true rfl ?_
  refine J_seq ?_
  refine J_region ?_
  refine L_v (opv_move rfl) rfl ?_
  refine L_v (opv_move rfl) rfl ?_
  refine L_v (opv_loadS rfl) rfl ?_
  refine L_x rfl (opx_call0 (Tbegin_cel r (.slice A q.length c) (.slice gA 0 gc) (.slice oA out.length oc) (.int .i64 m0) (.int .i64 m1) (.int .i64 now) (.int .i64 d0) (.int .i64 d1) now (⟨false, id, text⟩ : Tx) (by omega) (by show text.size ≤ 1518; omega)) rfl rfl rfl) (fun b38 _ => ?_)
  refine L_nil ?_
  refine K_then ?_
  refine J_seq ?_
  refine J_region ?_
  refine L_v (opv_assign rfl) rfl ?_
  refine L_nil ?_
  refine K_then ?_
  refine J_ret ?_
  refine K_then_ret ?_
  exact K_ret1 rfl rfl () trivial (rfl) (Ent.trans (Ent.take (Q := (sep (cel r [.slice A q.length c, .slice (some (ad b38 0)) 1 1, .slice oA out.length oc, .int .i64 m0, .int .i64 m1, .int .i64 now, .int .i64 d0, .int .i64 d1] 71) (sep (Own 93 3 (.slice A q.length c) q.length (flatT q)) (sep (cel b38 [.int .i64 id, .string text, .int .i64 now, .int .i64 (now + ((text.size : Int) + 20))] 48) (sep (Own 48 4 (.slice oA out.length oc) out.length (flat out)) (F))))))) (RefP.fold1 (go := goes ⟨id, text⟩ now) q (A, c) (oA, oc) hh hl2))

theorem TOffer_full_false (r : Nat) (s : QS) (m0 m1 d0 d1 cur now id : Int) (text : ByteArray) (hl : ¬ 1518 < (text.size : Int)) (h0 : tim cur now = 0) (hok : s.ok) (hn : s.out.length + s.wt ≤ 1000000) (h l : List Wt) (go : Sn) (out : List Sn) (hS : s.run now = ⟨h, l, true, go, out⟩) (hf : m1 ≤ (l.length : Int)) (hd : -1000000000 ≤ d1 ∧ d1 ≤ 1000000000) : FSpec Try.prog 36 #[.pointer (some (ad r 0)), .int .i64 now, .bool false, .int .i64 id, .string text] (RefP r s m0 m1 d0 d1 cur) (fun _ : Unit => True) (fun _ => .int .i64 22) (fun _ => RefP r ⟨h, l, true, go, out⟩ m0 m1 d0 (d1 + 1) now) := by
  have hb : 0 ≤ now ∧ now ≤ 1125899906842624 := tim_bd h0
  have hsum := QS.run_wt s now
  have hrok := QS.ok_run (now := now) hok
  rw [hS] at hsum hrok
  refine FSpec.enter' Try.func36 rfl Try.ntmps36 rfl fun σ F => ?_
  refine J_ex fun x => ?_
  refine J_eq _ (sep_assoc _ _ _) ?_
  refine J_lift fun hx => ?_
  refine J_eq (sep (cel r [.slice x.2.1.1 x.1.length x.2.1.2, .slice x.2.2.1.1 s.gl.length x.2.2.1.2, .slice x.2.2.2.1 s.out.length x.2.2.2.2, .int .i64 m0, .int .i64 m1, .int .i64 cur, .int .i64 d0, .int .i64 d1] 71) (sep (Own 93 3 (.slice x.2.1.1 x.1.length x.2.1.2) x.1.length (flatT x.1)) (sep (Own 48 4 (.slice x.2.2.1.1 s.gl.length x.2.2.1.2) s.gl.length (flat s.gl)) (sep (Own 48 4 (.slice x.2.2.2.1 s.out.length x.2.2.2.2) s.out.length (flat s.out)) (F))))) (by simp only [sep_assoc]) ?_
  refine J_seq ?_
  refine J_region ?_
  refine L_v (opv_assign rfl) rfl ?_
  refine L_nil ?_
  refine K_then ?_
  refine J_seq ?_
  refine J_region ?_
  refine L_v (opv_move rfl) rfl ?_
  refine L_v (opv_move rfl) rfl ?_
  refine L_x rfl (opx_call0 (Ttime_cel r (.slice x.2.1.1 x.1.length x.2.1.2) (.slice x.2.2.1.1 s.gl.length x.2.2.1.2) (.slice x.2.2.2.1 s.out.length x.2.2.2.2) (.int .i64 m0) (.int .i64 m1) (.int .i64 d0) (.int .i64 d1) cur now) rfl rfl rfl) (fun _ _ => ?_)
  refine L_v (opv_assign rfl) rfl ?_
  refine L_nil ?_
  refine K_then ?_
  refine J_seq ?_
  refine J_seq ?_
  refine J_region ?_
  refine L_v (opv_move rfl) rfl ?_
  refine L_v ((opv_neq rfl rfl).bool_f (fun n => n h0)) rfl ?_
  refine L_nil ?_
  refine K_then ?_
  refine J_cond_false rfl ?_
  refine J_skip ?_
  refine K_then ?_
  refine J_seq ?_
  refine J_seq ?_
  refine J_region ?_
  refine L_v (opv_move rfl) rfl ?_
  first
    | refine L_v (opv_lenL rfl) rfl ?_
    | refine L_v (opv_lenS rfl) rfl ?_
  refine L_v ((opv_gtr rfl rfl).bool_f hl) rfl ?_
  refine L_nil ?_
  refine K_then ?_
  refine J_cond_false rfl ?_
  refine J_skip ?_
  refine K_then ?_
  refine J_seq ?_
  refine J_region ?_
  refine L_v (opv_move rfl) rfl ?_
  refine L_v (opv_move rfl) rfl ?_
  refine L_imp (sep (RefP r s m0 m1 d0 d1 cur) (F)) (RefP.fold x.1 x.2.1 x.2.2.1 x.2.2.2 hx.1 hx.2) ?_
  refine L_x rfl (opx_call0 (Tgoes_spec r s m0 m1 d0 d1 cur now (by omega) hok hn) rfl rfl rfl) (fun _ _ => ?_)
  refine L_nil ?_
  refine K_then ?_
  refine J_seq ?_
  refine J_region ?_
  refine L_v (opv_move rfl) rfl ?_
  refine L_v (opv_move rfl) rfl ?_
  refine L_v (opv_move rfl) rfl ?_
  refine L_v (opv_build rfl) rfl ?_
  refine L_x rfl (opx_alloc rfl) (fun b12 _ => ?_)
  refine L_x rfl (opx_store rfl rfl rfl (by simp [Value.oneCell'])) (fun _ _ => ?_)
  refine L_nil ?_
  refine K_then ?_
  refine J_seq ?_
  refine J_seq ?_
  refine J_eq _ (sep_left_comm _ _ _) ?_
  rw [hS]
  refine J_pre _ _ (fun w hs => RefP.sat1 hs) fun x hx => ?_
  obtain ⟨q, ⟨A, c⟩, ⟨gb, gq, gc⟩, ⟨oA, oc⟩⟩ := x
  obtain ⟨⟨hh, hl2⟩, hA, hcap⟩ := hx
  dsimp only at hh hl2 hA hcap
  refine J_eq (sep (cel r [.slice A q.length c, .slice (some (ad gb gq)) 1 gc, .slice oA out.length oc, .int .i64 m0, .int .i64 m1, .int .i64 now, .int .i64 d0, .int .i64 d1] 71) (sep (Own 93 3 (.slice A q.length c) q.length (flatT q)) (sep (Own 48 4 (.slice (some (ad gb gq)) 1 gc) 1 (flat [go])) (sep (Own 48 4 (.slice oA out.length oc) out.length (flat out)) (sep (cel b12 [.bool false, .int .i64 id, .string text] 93) (F)))))) rfl ?_
  have hlen := len_hl q
  rw [hh, hl2] at hlen
  have hw := QS.wt_true h l go out
  dsimp only at hsum
  have hfq : m1 ≤ ((ls q).length : Int) := by rw [hl2]; exact hf
  refine J_region ?_
  refine L_v (opv_move rfl) rfl ?_
  refine L_v (opv_nilCheck rfl) rfl ?_
  first
    | refine L_v (opv_fieldAddr0 rfl) rfl ?_
    | refine L_v (opv_fieldAddr rfl) rfl ?_
  refine L_v (opv_load rfl (Rd.look rfl)) rfl ?_
  first
    | refine L_v (opv_lenL rfl) rfl ?_
    | refine L_v (opv_lenS rfl) rfl ?_
  refine L_v ((opv_eql rfl rfl).bool_f (by decide)) rfl ?_
  refine L_nil ?_
  refine K_then ?_
  refine J_cond_false rfl ?_
  refine J_skip ?_
  refine K_then ?_
  refine J_seq ?_
  refine J_seq ?_
  refine J_quiet Try.mixed (by kernel_rfl) ?_
  refine Q_v (opv_move rfl) rfl ?_
  refine Q_v (opv_move rfl) rfl ?_
  refine Q_gskip rfl rfl rfl ?_ (fun _ h => by cases h; rfl)
  refine Q_gskip rfl rfl rfl ?_ (fun _ h => by cases h; rfl)
  refine Q_gskip rfl rfl rfl ?_ (fun _ h => by cases h; rfl)
  refine Q_gskip rfl rfl rfl ?_ (fun _ h => by cases h; rfl)
  refine Q_gskip rfl rfl rfl ?_ (fun _ h => by cases h; rfl)
  refine Q_gskip rfl rfl rfl ?_ (fun _ h => by cases h; rfl)
  refine Q_gskip rfl rfl rfl ?_ (fun _ h => by cases h; rfl)
  first
    | refine Q_v (opv_pick_tt rfl rfl) rfl ?_
    | refine Q_v (opv_pick_ff rfl rfl) rfl ?_
    | refine Q_v (opv_pick rfl rfl rfl) rfl ?_
  refine QL_nil ?_
  refine K_then ?_
  refine J_cond_false rfl ?_
  refine J_skip ?_
  refine K_then ?_
  refine J_seq ?_
  refine J_seq ?_
  refine J_quiet Try.mixed (by kernel_rfl) ?_
  refine Q_v (opv_move rfl) rfl ?_
  refine Q_v (opv_not rfl) rfl ?_
  refine Q_v (opv_move rfl) rfl ?_
  refine Q_gon rfl rfl rfl ?_
  refine Q_v (opv_move rfl) rfl ?_
  refine Q_gon rfl rfl rfl ?_
  refine Q_call (TCount_false r (.slice (some (ad gb gq)) 1 gc) (.slice oA out.length oc) (.int .i64 m0) (.int .i64 m1) (.int .i64 now) (.int .i64 d0) (.int .i64 d1) q A c (by omega)) rfl rfl (fun _ _ => rfl) (fun _ _ => Ent.refl _) rfl ?_
  refine Q_gon rfl rfl rfl ?_
  refine Q_v (opv_move rfl) rfl ?_
  refine Q_gon rfl rfl rfl ?_
  refine Q_v (opv_nilCheck rfl) rfl ?_
  refine Q_gon rfl rfl rfl ?_
  first
    | refine Q_v (opv_fieldAddr0 rfl) rfl ?_
    | refine Q_v (opv_fieldAddr rfl) rfl ?_
  refine Q_gon rfl rfl rfl ?_
  refine Q_v (opv_load rfl (Rd.look rfl)) rfl ?_
  refine Q_gon rfl rfl rfl ?_
  refine Q_v ((opv_geq rfl rfl).bool_t (by omega)) rfl ?_
  first
    | refine Q_v (opv_pick_tt rfl rfl) rfl ?_
    | refine Q_v (opv_pick_ff rfl rfl) rfl ?_
    | refine Q_v (opv_pick rfl rfl rfl) rfl ?_
  refine QL_nil ?_
  refine K_then ?_
  refine J_cond_true rfl ?_
  refine J_seq ?_
  refine J_region ?_
  refine L_v (opv_move rfl) rfl ?_
  refine L_v (opv_move rfl) rfl ?_
  refine L_v (opv_nilCheck rfl) rfl ?_
  first
    | refine L_v (opv_fieldAddr0 rfl) rfl ?_
    | refine L_v (opv_fieldAddr rfl) rfl ?_
  refine L_v (opv_load rfl (Rd.look rfl)) rfl ?_
  first
    | refine L_v (opv_add64 rfl rfl (by omega)) rfl ?_
    | refine L_v (opv_addS rfl rfl (by omega)) rfl ?_
    | refine L_v (opv_add rfl rfl) rfl ?_
  refine L_v (opv_nilCheck rfl) rfl ?_
  first
    | refine L_v (opv_fieldAddr0 rfl) rfl ?_
    | refine L_v (opv_fieldAddr rfl) rfl ?_
  refine L_x rfl (opx_store rfl rfl rfl (by simp [Value.oneCell'])) (fun _ _ => ?_)
  refine L_nil ?_
  refine K_then ?_
  refine J_seq ?_
  refine J_region ?_
  refine L_v (opv_assign rfl) rfl ?_
  refine L_nil ?_
  refine K_then ?_
  refine J_ret ?_
  refine K_then_ret ?_
  exact K_ret1 rfl rfl () trivial (rfl) (Ent.trans (Ent.take (Q := (sep (cel r [.slice A q.length c, .slice (some (ad gb gq)) 1 gc, .slice oA out.length oc, .int .i64 m0, .int .i64 m1, .int .i64 now, .int .i64 d0, .int .i64 (d1 + 1)] 71) (sep (Own 93 3 (.slice A q.length c) q.length (flatT q)) (sep (Own 48 4 (.slice (some (ad gb gq)) 1 gc) 1 (flat [go])) (sep (Own 48 4 (.slice oA out.length oc) out.length (flat out)) (F))))))) (RefP.fold (s := ⟨h, l, true, go, out⟩) q (A, c) (some (ad gb gq), gc) (oA, oc) hh hl2))

theorem TOffer_wait_false (r : Nat) (s : QS) (m0 m1 d0 d1 cur now id : Int) (text : ByteArray) (hl : ¬ 1518 < (text.size : Int)) (h0 : tim cur now = 0) (hok : s.ok) (hn : s.out.length + s.wt ≤ 1000000) (h l : List Wt) (go : Sn) (out : List Sn) (hS : s.run now = ⟨h, l, true, go, out⟩) (hf : ¬ m1 ≤ (l.length : Int)) : FSpec Try.prog 36 #[.pointer (some (ad r 0)), .int .i64 now, .bool false, .int .i64 id, .string text] (RefP r s m0 m1 d0 d1 cur) (fun _ : Unit => True) (fun _ => .int .i64 0) (fun _ => RefP r ⟨h, l ++ [⟨id, text⟩], true, go, out⟩ m0 m1 d0 d1 now) := by
  have hb : 0 ≤ now ∧ now ≤ 1125899906842624 := tim_bd h0
  have hsum := QS.run_wt s now
  have hrok := QS.ok_run (now := now) hok
  rw [hS] at hsum hrok
  refine FSpec.enter' Try.func36 rfl Try.ntmps36 rfl fun σ F => ?_
  refine J_ex fun x => ?_
  refine J_eq _ (sep_assoc _ _ _) ?_
  refine J_lift fun hx => ?_
  refine J_eq (sep (cel r [.slice x.2.1.1 x.1.length x.2.1.2, .slice x.2.2.1.1 s.gl.length x.2.2.1.2, .slice x.2.2.2.1 s.out.length x.2.2.2.2, .int .i64 m0, .int .i64 m1, .int .i64 cur, .int .i64 d0, .int .i64 d1] 71) (sep (Own 93 3 (.slice x.2.1.1 x.1.length x.2.1.2) x.1.length (flatT x.1)) (sep (Own 48 4 (.slice x.2.2.1.1 s.gl.length x.2.2.1.2) s.gl.length (flat s.gl)) (sep (Own 48 4 (.slice x.2.2.2.1 s.out.length x.2.2.2.2) s.out.length (flat s.out)) (F))))) (by simp only [sep_assoc]) ?_
  refine J_seq ?_
  refine J_region ?_
  refine L_v (opv_assign rfl) rfl ?_
  refine L_nil ?_
  refine K_then ?_
  refine J_seq ?_
  refine J_region ?_
  refine L_v (opv_move rfl) rfl ?_
  refine L_v (opv_move rfl) rfl ?_
  refine L_x rfl (opx_call0 (Ttime_cel r (.slice x.2.1.1 x.1.length x.2.1.2) (.slice x.2.2.1.1 s.gl.length x.2.2.1.2) (.slice x.2.2.2.1 s.out.length x.2.2.2.2) (.int .i64 m0) (.int .i64 m1) (.int .i64 d0) (.int .i64 d1) cur now) rfl rfl rfl) (fun _ _ => ?_)
  refine L_v (opv_assign rfl) rfl ?_
  refine L_nil ?_
  refine K_then ?_
  refine J_seq ?_
  refine J_seq ?_
  refine J_region ?_
  refine L_v (opv_move rfl) rfl ?_
  refine L_v ((opv_neq rfl rfl).bool_f (fun n => n h0)) rfl ?_
  refine L_nil ?_
  refine K_then ?_
  refine J_cond_false rfl ?_
  refine J_skip ?_
  refine K_then ?_
  refine J_seq ?_
  refine J_seq ?_
  refine J_region ?_
  refine L_v (opv_move rfl) rfl ?_
  first
    | refine L_v (opv_lenL rfl) rfl ?_
    | refine L_v (opv_lenS rfl) rfl ?_
  refine L_v ((opv_gtr rfl rfl).bool_f hl) rfl ?_
  refine L_nil ?_
  refine K_then ?_
  refine J_cond_false rfl ?_
  refine J_skip ?_
  refine K_then ?_
  refine J_seq ?_
  refine J_region ?_
  refine L_v (opv_move rfl) rfl ?_
  refine L_v (opv_move rfl) rfl ?_
  refine L_imp (sep (RefP r s m0 m1 d0 d1 cur) (F)) (RefP.fold x.1 x.2.1 x.2.2.1 x.2.2.2 hx.1 hx.2) ?_
  refine L_x rfl (opx_call0 (Tgoes_spec r s m0 m1 d0 d1 cur now (by omega) hok hn) rfl rfl rfl) (fun _ _ => ?_)
  refine L_nil ?_
  refine K_then ?_
  refine J_seq ?_
  refine J_region ?_
  refine L_v (opv_move rfl) rfl ?_
  refine L_v (opv_move rfl) rfl ?_
  refine L_v (opv_move rfl) rfl ?_
  refine L_v (opv_build rfl) rfl ?_
  refine L_x rfl (opx_alloc rfl) (fun b12 _ => ?_)
  refine L_x rfl (opx_store rfl rfl rfl (by simp [Value.oneCell'])) (fun _ _ => ?_)
  refine L_nil ?_
  refine K_then ?_
  refine J_seq ?_
  refine J_seq ?_
  refine J_eq _ (sep_left_comm _ _ _) ?_
  rw [hS]
  refine J_pre _ _ (fun w hs => RefP.sat1 hs) fun x hx => ?_
  obtain ⟨q, ⟨A, c⟩, ⟨gb, gq, gc⟩, ⟨oA, oc⟩⟩ := x
  obtain ⟨⟨hh, hl2⟩, hA, hcap⟩ := hx
  dsimp only at hh hl2 hA hcap
  refine J_eq (sep (cel r [.slice A q.length c, .slice (some (ad gb gq)) 1 gc, .slice oA out.length oc, .int .i64 m0, .int .i64 m1, .int .i64 now, .int .i64 d0, .int .i64 d1] 71) (sep (Own 93 3 (.slice A q.length c) q.length (flatT q)) (sep (Own 48 4 (.slice (some (ad gb gq)) 1 gc) 1 (flat [go])) (sep (Own 48 4 (.slice oA out.length oc) out.length (flat out)) (sep (cel b12 [.bool false, .int .i64 id, .string text] 93) (F)))))) rfl ?_
  have hlen := len_hl q
  rw [hh, hl2] at hlen
  have hw := QS.wt_true h l go out
  dsimp only at hsum
  have hfq : ¬ m1 ≤ ((ls q).length : Int) := by rw [hl2]; exact hf
  refine J_region ?_
  refine L_v (opv_move rfl) rfl ?_
  refine L_v (opv_nilCheck rfl) rfl ?_
  first
    | refine L_v (opv_fieldAddr0 rfl) rfl ?_
    | refine L_v (opv_fieldAddr rfl) rfl ?_
  refine L_v (opv_load rfl (Rd.look rfl)) rfl ?_
  first
    | refine L_v (opv_lenL rfl) rfl ?_
    | refine L_v (opv_lenS rfl) rfl ?_
  refine L_v ((opv_eql rfl rfl).bool_f (by decide)) rfl ?_
  refine L_nil ?_
  refine K_then ?_
  refine J_cond_false rfl ?_
  refine J_skip ?_
  refine K_then ?_
  refine J_seq ?_
  refine J_seq ?_
  refine J_quiet Try.mixed (by kernel_rfl) ?_
  refine Q_v (opv_move rfl) rfl ?_
  refine Q_v (opv_move rfl) rfl ?_
  refine Q_gskip rfl rfl rfl ?_ (fun _ h => by cases h; rfl)
  refine Q_gskip rfl rfl rfl ?_ (fun _ h => by cases h; rfl)
  refine Q_gskip rfl rfl rfl ?_ (fun _ h => by cases h; rfl)
  refine Q_gskip rfl rfl rfl ?_ (fun _ h => by cases h; rfl)
  refine Q_gskip rfl rfl rfl ?_ (fun _ h => by cases h; rfl)
  refine Q_gskip rfl rfl rfl ?_ (fun _ h => by cases h; rfl)
  refine Q_gskip rfl rfl rfl ?_ (fun _ h => by cases h; rfl)
  first
    | refine Q_v (opv_pick_tt rfl rfl) rfl ?_
    | refine Q_v (opv_pick_ff rfl rfl) rfl ?_
    | refine Q_v (opv_pick rfl rfl rfl) rfl ?_
  refine QL_nil ?_
  refine K_then ?_
  refine J_cond_false rfl ?_
  refine J_skip ?_
  refine K_then ?_
  refine J_seq ?_
  refine J_seq ?_
  refine J_quiet Try.mixed (by kernel_rfl) ?_
  refine Q_v (opv_move rfl) rfl ?_
  refine Q_v (opv_not rfl) rfl ?_
  refine Q_v (opv_move rfl) rfl ?_
  refine Q_gon rfl rfl rfl ?_
  refine Q_v (opv_move rfl) rfl ?_
  refine Q_gon rfl rfl rfl ?_
  refine Q_call (TCount_false r (.slice (some (ad gb gq)) 1 gc) (.slice oA out.length oc) (.int .i64 m0) (.int .i64 m1) (.int .i64 now) (.int .i64 d0) (.int .i64 d1) q A c (by omega)) rfl rfl (fun _ _ => rfl) (fun _ _ => Ent.refl _) rfl ?_
  refine Q_gon rfl rfl rfl ?_
  refine Q_v (opv_move rfl) rfl ?_
  refine Q_gon rfl rfl rfl ?_
  refine Q_v (opv_nilCheck rfl) rfl ?_
  refine Q_gon rfl rfl rfl ?_
  first
    | refine Q_v (opv_fieldAddr0 rfl) rfl ?_
    | refine Q_v (opv_fieldAddr rfl) rfl ?_
  refine Q_gon rfl rfl rfl ?_
  refine Q_v (opv_load rfl (Rd.look rfl)) rfl ?_
  refine Q_gon rfl rfl rfl ?_
  refine Q_v ((opv_geq rfl rfl).bool_f (by omega)) rfl ?_
  first
    | refine Q_v (opv_pick_tt rfl rfl) rfl ?_
    | refine Q_v (opv_pick_ff rfl rfl) rfl ?_
    | refine Q_v (opv_pick rfl rfl rfl) rfl ?_
  refine QL_nil ?_
  refine K_then ?_
  refine J_cond_false rfl ?_
  refine J_skip ?_
  refine K_then ?_
  refine J_seq ?_
  refine J_steps (cel b12 [.bool false, .int .i64 id, .string text] 93) ((sep (cel b12 [.bool false, .int .i64 id, .string text] 93) (cel r [.slice A q.length c, .slice (some (ad gb gq)) 1 gc, .slice oA out.length oc, .int .i64 m0, .int .i64 m1, .int .i64 now, .int .i64 d0, .int .i64 d1] 71))) [10] Try.mixed ?_
  refine R_pure 0 rfl (by kernel_rfl) (by kernel_rfl) (by kernel_rfl) (by kernel_rfl) (.inr ⟨_, Take.eq (A := (sep (cel b12 [.bool false, .int .i64 id, .string text] 93) (cel r [.slice A q.length c, .slice (some (ad gb gq)) 1 gc, .slice oA out.length oc, .int .i64 m0, .int .i64 m1, .int .i64 now, .int .i64 d0, .int .i64 d1] 71)))⟩) (opv_move rfl) rfl ?_
  refine R_pure 1 rfl (by kernel_rfl) (by kernel_rfl) (by kernel_rfl) (by kernel_rfl) (.inr ⟨_, Take.eq (A := (sep (cel b12 [.bool false, .int .i64 id, .string text] 93) (cel r [.slice A q.length c, .slice (some (ad gb gq)) 1 gc, .slice oA out.length oc, .int .i64 m0, .int .i64 m1, .int .i64 now, .int .i64 d0, .int .i64 d1] 71)))⟩) (opv_move rfl) rfl ?_
  refine R_pure 2 rfl (by kernel_rfl) (by kernel_rfl) (by kernel_rfl) (by kernel_rfl) (.inr ⟨_, Take.eq (A := (sep (cel b12 [.bool false, .int .i64 id, .string text] 93) (cel r [.slice A q.length c, .slice (some (ad gb gq)) 1 gc, .slice oA out.length oc, .int .i64 m0, .int .i64 m1, .int .i64 now, .int .i64 d0, .int .i64 d1] 71)))⟩) (opv_nilCheck rfl) rfl ?_
  first
    | refine R_pure 3 rfl (by kernel_rfl) (by kernel_rfl) (by kernel_rfl) (by kernel_rfl) (.inr ⟨_, Take.eq (A := (sep (cel b12 [.bool false, .int .i64 id, .string text] 93) (cel r [.slice A q.length c, .slice (some (ad gb gq)) 1 gc, .slice oA out.length oc, .int .i64 m0, .int .i64 m1, .int .i64 now, .int .i64 d0, .int .i64 d1] 71)))⟩) (opv_fieldAddr0 rfl) rfl ?_
    | refine R_pure 3 rfl (by kernel_rfl) (by kernel_rfl) (by kernel_rfl) (by kernel_rfl) (.inr ⟨_, Take.eq (A := (sep (cel b12 [.bool false, .int .i64 id, .string text] 93) (cel r [.slice A q.length c, .slice (some (ad gb gq)) 1 gc, .slice oA out.length oc, .int .i64 m0, .int .i64 m1, .int .i64 now, .int .i64 d0, .int .i64 d1] 71)))⟩) (opv_fieldAddr rfl) rfl ?_
  refine R_take 4 rfl (by kernel_rfl) (by kernel_rfl) (by kernel_rfl) (by kernel_rfl) (by kernel_rfl) (opv_load rfl (Rd.look rfl)) rfl ?_
  refine R_take 5 rfl (by kernel_rfl) (by kernel_rfl) (by kernel_rfl) (by kernel_rfl) (by kernel_rfl) (opv_loadS rfl) rfl ?_
  refine R_only 6 rfl rfl (by kernel_rfl) (opx_buildSlice1 (m := 3) rfl rfl (by omega) (by omega) rfl) (fun _ _ => ⟨_, Take.eq (A := cel b12 [.bool false, .int .i64 id, .string text] 93)⟩) (.inr fun _ _ => ⟨_, Take.eq (A := (sep (cel b12 [.bool false, .int .i64 id, .string text] 93) (cel r [.slice A q.length c, .slice (some (ad gb gq)) 1 gc, .slice oA out.length oc, .int .i64 m0, .int .i64 m1, .int .i64 now, .int .i64 d0, .int .i64 d1] 71)))⟩) (fun b82 _ => ?_)
  refine R_only 7 rfl rfl (by kernel_rfl) (opx_append (m := 3) (B := 32) rfl rfl (Src.lit) rfl (by omega) rfl (by simp [Value.oneCell']) (by unfold maxLen; omega) (by omega) rfl) (fun _ _ => ⟨_, Take.eq (A := cel b12 [.bool false, .int .i64 id, .string text] 93)⟩) (.inr fun _ _ => ⟨_, Take.eq (A := (sep (cel b12 [.bool false, .int .i64 id, .string text] 93) (cel r [.slice A q.length c, .slice (some (ad gb gq)) 1 gc, .slice oA out.length oc, .int .i64 m0, .int .i64 m1, .int .i64 now, .int .i64 d0, .int .i64 d1] 71)))⟩) (fun y83 _ => ?_)
  refine R_pure 8 rfl (by kernel_rfl) (by kernel_rfl) (by kernel_rfl) (by kernel_rfl) (.inr ⟨_, Take.eq (A := (sep (cel b12 [.bool false, .int .i64 id, .string text] 93) (cel r [.slice A q.length c, .slice (some (ad gb gq)) 1 gc, .slice oA out.length oc, .int .i64 m0, .int .i64 m1, .int .i64 now, .int .i64 d0, .int .i64 d1] 71)))⟩) (opv_nilCheck rfl) rfl ?_
  first
    | refine R_pure 9 rfl (by kernel_rfl) (by kernel_rfl) (by kernel_rfl) (by kernel_rfl) (.inr ⟨_, Take.eq (A := (sep (cel b12 [.bool false, .int .i64 id, .string text] 93) (cel r [.slice A q.length c, .slice (some (ad gb gq)) 1 gc, .slice oA out.length oc, .int .i64 m0, .int .i64 m1, .int .i64 now, .int .i64 d0, .int .i64 d1] 71)))⟩) (opv_fieldAddr0 rfl) rfl ?_
    | refine R_pure 9 rfl (by kernel_rfl) (by kernel_rfl) (by kernel_rfl) (by kernel_rfl) (.inr ⟨_, Take.eq (A := (sep (cel b12 [.bool false, .int .i64 id, .string text] 93) (cel r [.slice A q.length c, .slice (some (ad gb gq)) 1 gc, .slice oA out.length oc, .int .i64 m0, .int .i64 m1, .int .i64 now, .int .i64 d0, .int .i64 d1] 71)))⟩) (opv_fieldAddr rfl) rfl ?_
  refine R_only 10 rfl rfl (by kernel_rfl) (opx_store rfl rfl rfl (by simp [Value.oneCell'])) (fun _ _ => ⟨_, Take.eq (A := cel b12 [.bool false, .int .i64 id, .string text] 93)⟩) (.inl (by kernel_rfl)) (fun _ _ => ?_)
  refine R_done (by kernel_rfl) ?_
  refine K_then ?_
  refine J_seq ?_
  refine J_region ?_
  refine L_v (opv_assign rfl) rfl ?_
  refine L_nil ?_
  refine K_then ?_
  refine J_ret ?_
  have hfl : flatT q ++ [.bool false, .int .i64 id, .string text] = flatT (q ++ [(⟨false, id, text⟩ : Tx)]) := flatT_snoc q (⟨false, id, text⟩ : Tx)
  rw [hfl, show q.length + 1 = (q ++ [(⟨false, id, text⟩ : Tx)]).length by simp]
  exact K_ret1 rfl rfl () trivial (rfl) (Ent.trans (Ent.take (Q := (sep (cel r [.slice y83.1 (q ++ [(⟨false, id, text⟩ : Tx)]).length y83.2, .slice (some (ad gb gq)) 1 gc, .slice oA out.length oc, .int .i64 m0, .int .i64 m1, .int .i64 now, .int .i64 d0, .int .i64 d1] 71) (sep (Own 93 3 (.slice y83.1 (q ++ [(⟨false, id, text⟩ : Tx)]).length y83.2) (q ++ [(⟨false, id, text⟩ : Tx)]).length (flatT (q ++ [(⟨false, id, text⟩ : Tx)]))) (sep (Own 48 4 (.slice (some (ad gb gq)) 1 gc) 1 (flat [go])) (sep (Own 48 4 (.slice oA out.length oc) out.length (flat out)) (F))))))) (RefP.fold (s := ⟨h, l ++ [⟨id, text⟩], true, go, out⟩) (q ++ [(⟨false, id, text⟩ : Tx)]) y83 (some (ad gb gq), gc) (oA, oc) (by rw [hs_app, hh, (hs_one_f (x := (⟨false, id, text⟩ : Tx)) rfl).1, List.append_nil]) (by rw [ls_app, hl2, (hs_one_f (x := (⟨false, id, text⟩ : Tx)) rfl).2])))

theorem TPass_err (r : Nat) (s : QS) (m0 m1 d0 d1 cur now : Int) (h : tim cur now ≠ 0) : FSpec Try.prog 33 #[.pointer (some (ad r 0)), .int .i64 now] (RefP r s m0 m1 d0 d1 cur) (fun _ : Unit => True) (fun _ => .tuple #[.slice none 0 0, .int .i64 (tim cur now)]) (fun _ => RefP r s m0 m1 d0 d1 cur) := by
  refine FSpec.enter' Try.func33 rfl Try.ntmps33 rfl fun σ F => ?_
  refine J_ex fun x => ?_
  refine J_eq _ (sep_assoc _ _ _) ?_
  refine J_lift fun hx => ?_
  refine J_eq (sep (cel r [.slice x.2.1.1 x.1.length x.2.1.2, .slice x.2.2.1.1 s.gl.length x.2.2.1.2, .slice x.2.2.2.1 s.out.length x.2.2.2.2, .int .i64 m0, .int .i64 m1, .int .i64 cur, .int .i64 d0, .int .i64 d1] 71) (sep (Own 93 3 (.slice x.2.1.1 x.1.length x.2.1.2) x.1.length (flatT x.1)) (sep (Own 48 4 (.slice x.2.2.1.1 s.gl.length x.2.2.1.2) s.gl.length (flat s.gl)) (sep (Own 48 4 (.slice x.2.2.2.1 s.out.length x.2.2.2.2) s.out.length (flat s.out)) (F))))) (by simp only [sep_assoc]) ?_
  refine J_seq ?_
  refine J_region ?_
  refine L_v (opv_assign rfl) rfl ?_
  refine L_v (opv_assign rfl) rfl ?_
  refine L_nil ?_
  refine K_then ?_
  refine J_seq ?_
  refine J_region ?_
  refine L_v (opv_move rfl) rfl ?_
  refine L_v (opv_move rfl) rfl ?_
  refine L_x rfl (opx_call0 (Ttime_cel r (.slice x.2.1.1 x.1.length x.2.1.2) (.slice x.2.2.1.1 s.gl.length x.2.2.1.2) (.slice x.2.2.2.1 s.out.length x.2.2.2.2) (.int .i64 m0) (.int .i64 m1) (.int .i64 d0) (.int .i64 d1) cur now) rfl rfl rfl) (fun _ _ => ?_)
  refine L_v (opv_assign rfl) rfl ?_
  refine L_nil ?_
  refine K_then ?_
  refine J_seq ?_
  refine J_seq ?_
  refine J_region ?_
  refine L_v (opv_move rfl) rfl ?_
  refine L_v ((opv_neq rfl rfl).bool_t h) rfl ?_
  refine L_nil ?_
  refine K_then ?_
  refine J_cond_true rfl ?_
  refine J_seq ?_
  refine J_region ?_
  refine L_v (opv_move rfl) rfl ?_
  refine L_v (opv_assign rfl) rfl ?_
  refine L_v (opv_assign rfl) rfl ?_
  refine L_nil ?_
  refine K_then ?_
  refine J_ret ?_
  refine K_then_ret ?_
  exact K_ret2 rfl rfl rfl () trivial rfl (RefP.fold x.1 x.2.1 x.2.2.1 x.2.2.2 hx.1 hx.2)


theorem tpass_ent {r : Nat} {s : QS} {m0 m1 d0 d1 now : Int} {F : HProp} (q : List Tx) (a g o : Hd) (hh : hs q = s.h) (hl : ls q = s.l) : Ent (sep (cel r [.slice a.1 q.length a.2, .slice g.1 s.gl.length g.2, .slice none 0 0, .int .i64 m0, .int .i64 m1, .int .i64 now, .int .i64 d0, .int .i64 d1] 71) (sep (Own 93 3 (.slice a.1 q.length a.2) q.length (flatT q)) (sep (Own 48 4 (.slice g.1 s.gl.length g.2) s.gl.length (flat s.gl)) (sep (Own 48 4 (.slice o.1 s.out.length o.2) s.out.length (flat s.out)) (F))))) (sep ((sep (RefP r { s with out := [] } m0 m1 d0 d1 now) (Own 48 4 (.slice o.1 s.out.length o.2) s.out.length (flat s.out)))) (F)) := by
  have h := RefP.fold (r := r) (s := { s with out := [] }) (m0 := m0) (m1 := m1) (d0 := d0) (d1 := d1) (now := now) (F := (sep (Own 48 4 (.slice o.1 s.out.length o.2) s.out.length (flat s.out)) (F))) q a g (none, 0) hh hl
  have e1 := (Own.nil 48 4).frame (sep (Own 48 4 (.slice o.1 s.out.length o.2) s.out.length (flat s.out)) (F))
  rw [emp_sep] at e1
  refine Ent.trans ?_ (Ent.trans h (Ent.of (sep_assoc _ _ _).symm))
  exact Ent.frame_left (Ent.frame_left (Ent.frame_left e1 _) _) _
theorem tnew {p : Nat} {m0 m1 : Int} {F : HProp} : Ent (sep (cel p [.slice none 0 0, .slice none 0 0, .slice none 0 0, .int .i64 m0, .int .i64 m1, .int .i64 0, .int .i64 0, .int .i64 0] 71) (F)) (sep (RefP p qs0 m0 m1 0 0 0) (F)) :=
  Ent.trans (Ent.frame_left (Ent.trans (Ent.of (emp_sep F).symm) (Ent.trans ((Own.nil 48 4).frame F) (Ent.trans (Ent.of (emp_sep _).symm) (Ent.trans ((Own.nil 48 4).frame _) (Ent.trans (Ent.of (emp_sep _).symm) ((Own.nil 93 3).frame _)))))) _) (RefP.fold (s := qs0) [] (none, 0) (none, 0) (none, 0) rfl rfl)

theorem TPass_ok (r : Nat) (s : QS) (m0 m1 d0 d1 cur now : Int) (h : tim cur now = 0) (hok : s.ok) (hn : s.out.length + s.wt ≤ 1000000) : FSpec Try.prog 33 #[.pointer (some (ad r 0)), .int .i64 now] (RefP r s m0 m1 d0 d1 cur) (fun z : Hd => True) (fun z => .tuple #[.slice z.1 (s.run now).out.length z.2, .int .i64 0]) (fun z => (sep (RefP r { (s.run now) with out := [] } m0 m1 d0 d1 now) (Own 48 4 (.slice z.1 (s.run now).out.length z.2) (s.run now).out.length (flat (s.run now).out)))) := by
  have hb : 0 ≤ now ∧ now ≤ 1125899906842624 := tim_bd h
  refine FSpec.enter' Try.func33 rfl Try.ntmps33 rfl fun σ F => ?_
  refine J_ex fun x => ?_
  refine J_eq _ (sep_assoc _ _ _) ?_
  refine J_lift fun hx => ?_
  refine J_eq (sep (cel r [.slice x.2.1.1 x.1.length x.2.1.2, .slice x.2.2.1.1 s.gl.length x.2.2.1.2, .slice x.2.2.2.1 s.out.length x.2.2.2.2, .int .i64 m0, .int .i64 m1, .int .i64 cur, .int .i64 d0, .int .i64 d1] 71) (sep (Own 93 3 (.slice x.2.1.1 x.1.length x.2.1.2) x.1.length (flatT x.1)) (sep (Own 48 4 (.slice x.2.2.1.1 s.gl.length x.2.2.1.2) s.gl.length (flat s.gl)) (sep (Own 48 4 (.slice x.2.2.2.1 s.out.length x.2.2.2.2) s.out.length (flat s.out)) (F))))) (by simp only [sep_assoc]) ?_
  refine J_seq ?_
  refine J_region ?_
  refine L_v (opv_assign rfl) rfl ?_
  refine L_v (opv_assign rfl) rfl ?_
  refine L_nil ?_
  refine K_then ?_
  refine J_seq ?_
  refine J_region ?_
  refine L_v (opv_move rfl) rfl ?_
  refine L_v (opv_move rfl) rfl ?_
  refine L_x rfl (opx_call0 (Ttime_cel r (.slice x.2.1.1 x.1.length x.2.1.2) (.slice x.2.2.1.1 s.gl.length x.2.2.1.2) (.slice x.2.2.2.1 s.out.length x.2.2.2.2) (.int .i64 m0) (.int .i64 m1) (.int .i64 d0) (.int .i64 d1) cur now) rfl rfl rfl) (fun _ _ => ?_)
  refine L_v (opv_assign rfl) rfl ?_
  refine L_nil ?_
  refine K_then ?_
  refine J_seq ?_
  refine J_seq ?_
  refine J_region ?_
  refine L_v (opv_move rfl) rfl ?_
  refine L_v ((opv_neq rfl rfl).bool_f (fun n => n h)) rfl ?_
  refine L_nil ?_
  refine K_then ?_
  refine J_cond_false rfl ?_
  refine J_skip ?_
  refine K_then ?_
  refine J_seq ?_
  refine J_region ?_
  refine L_v (opv_move rfl) rfl ?_
  refine L_v (opv_move rfl) rfl ?_
  refine L_imp (sep (RefP r s m0 m1 d0 d1 cur) (F)) (RefP.fold x.1 x.2.1 x.2.2.1 x.2.2.2 hx.1 hx.2) ?_
  refine L_x rfl (opx_call0 (Tgoes_spec r s m0 m1 d0 d1 cur now (by omega) hok hn) rfl rfl rfl) (fun _ _ => ?_)
  refine L_nil ?_
  refine K_then ?_
  refine J_seq ?_
  refine J_ex fun x => ?_
  refine J_eq _ (sep_assoc _ _ _) ?_
  refine J_lift fun hx => ?_
  refine J_eq (sep (cel r [.slice x.2.1.1 x.1.length x.2.1.2, .slice x.2.2.1.1 (s.run now).gl.length x.2.2.1.2, .slice x.2.2.2.1 (s.run now).out.length x.2.2.2.2, .int .i64 m0, .int .i64 m1, .int .i64 now, .int .i64 d0, .int .i64 d1] 71) (sep (Own 93 3 (.slice x.2.1.1 x.1.length x.2.1.2) x.1.length (flatT x.1)) (sep (Own 48 4 (.slice x.2.2.1.1 (s.run now).gl.length x.2.2.1.2) (s.run now).gl.length (flat (s.run now).gl)) (sep (Own 48 4 (.slice x.2.2.2.1 (s.run now).out.length x.2.2.2.2) (s.run now).out.length (flat (s.run now).out)) (F))))) (by simp only [sep_assoc]) ?_
  refine J_region ?_
  refine L_v (opv_move rfl) rfl ?_
  refine L_v (opv_nilCheck rfl) rfl ?_
  first
    | refine L_v (opv_fieldAddr0 rfl) rfl ?_
    | refine L_v (opv_fieldAddr rfl) rfl ?_
  refine L_v (opv_load rfl (Rd.look rfl)) rfl ?_
  refine L_v (opv_assign rfl) rfl ?_
  refine L_nil ?_
  refine K_then ?_
  refine J_seq ?_
  refine J_region ?_
  refine L_v (opv_move rfl) rfl ?_
  refine L_v (opv_nilCheck rfl) rfl ?_
  first
    | refine L_v (opv_fieldAddr0 rfl) rfl ?_
    | refine L_v (opv_fieldAddr rfl) rfl ?_
  refine L_x rfl (opx_store rfl rfl rfl (by simp [Value.oneCell'])) (fun _ _ => ?_)
  refine L_nil ?_
  refine K_then ?_
  refine J_seq ?_
  refine J_region ?_
  refine L_v (opv_move rfl) rfl ?_
  refine L_v (opv_assign rfl) rfl ?_
  refine L_v (opv_assign rfl) rfl ?_
  refine L_nil ?_
  refine K_then ?_
  refine J_ret ?_
  exact K_ret2 rfl rfl rfl x.2.2.2 trivial rfl (tpass_ent (s := s.run now) x.1 x.2.1 x.2.2.1 x.2.2.2 hx.1 hx.2)

theorem TNew_ok (a c : Int) (ha : 1 ≤ a ∧ a ≤ 1024) (hc : 1 ≤ c ∧ c ≤ 1024) : FSpec Try.prog 31 #[.int .i64 a, .int .i64 c] (emp) (fun p : Nat => True) (fun p => .tuple #[.pointer (some (ad p 0)), .int .i64 0]) (fun p => RefP p qs0 a c 0 0 0) := by
  refine FSpec.enter' Try.func31 rfl Try.ntmps31 rfl fun σ F => ?_
  refine J_emp ?_
  refine J_seq ?_
  refine J_region ?_
  refine L_v (opv_assign rfl) rfl ?_
  refine L_v (opv_assign rfl) rfl ?_
  refine L_nil ?_
  refine K_then ?_
  refine J_seq ?_
  refine J_seq ?_
  refine J_region ?_
  refine L_v (opv_move rfl) rfl ?_
  refine L_v ((opv_lss rfl rfl).bool_f (by omega)) rfl ?_
  refine L_v (opv_move rfl) rfl ?_
  refine L_gon rfl rfl rfl ?_
  refine L_v (opv_move rfl) rfl ?_
  refine L_gon rfl rfl rfl ?_
  refine L_v ((opv_gtr rfl rfl).bool_f (by omega)) rfl ?_
  first
    | refine L_v (opv_pick_tt rfl rfl) rfl ?_
    | refine L_v (opv_pick_ff rfl rfl) rfl ?_
    | refine L_v (opv_pick rfl rfl rfl) rfl ?_
  refine L_v (opv_move rfl) rfl ?_
  refine L_gon rfl rfl rfl ?_
  refine L_v (opv_move rfl) rfl ?_
  refine L_gon rfl rfl rfl ?_
  refine L_v ((opv_lss rfl rfl).bool_f (by omega)) rfl ?_
  first
    | refine L_v (opv_pick_tt rfl rfl) rfl ?_
    | refine L_v (opv_pick_ff rfl rfl) rfl ?_
    | refine L_v (opv_pick rfl rfl rfl) rfl ?_
  refine L_v (opv_move rfl) rfl ?_
  refine L_gon rfl rfl rfl ?_
  refine L_v (opv_move rfl) rfl ?_
  refine L_gon rfl rfl rfl ?_
  refine L_v ((opv_gtr rfl rfl).bool_f (by omega)) rfl ?_
  first
    | refine L_v (opv_pick_tt rfl rfl) rfl ?_
    | refine L_v (opv_pick_ff rfl rfl) rfl ?_
    | refine L_v (opv_pick rfl rfl rfl) rfl ?_
  refine L_nil ?_
  refine K_then ?_
  refine J_cond_false rfl ?_
  refine J_skip ?_
  refine K_then ?_
  refine J_seq ?_
  refine J_region ?_
  refine L_v (opv_move rfl) rfl ?_
  refine L_v (opv_move rfl) rfl ?_
  refine L_v (opv_build rfl) rfl ?_
  refine L_x rfl (opx_box rfl rfl) (fun b23 _ => ?_)
  refine L_v (opv_assign rfl) rfl ?_
  refine L_v (opv_assign rfl) rfl ?_
  refine L_nil ?_
  refine K_then ?_
  refine J_ret ?_
  exact K_ret2 rfl rfl rfl b23 trivial rfl tnew

theorem TNew_err (a c : Int) (h : ¬ (1 ≤ a ∧ a ≤ 1024 ∧ 1 ≤ c ∧ c ≤ 1024)) : FSpec Try.prog 31 #[.int .i64 a, .int .i64 c] (emp) (fun _ : Unit => True) (fun _ => .tuple #[.pointer none, .int .i64 1]) (fun _ => emp) := by
  refine FSpec.enter' Try.func31 rfl Try.ntmps31 rfl fun σ F => ?_
  refine J_seq ?_
  refine J_region ?_
  refine L_v (opv_assign rfl) rfl ?_
  refine L_v (opv_assign rfl) rfl ?_
  refine L_nil ?_
  refine K_then ?_
  refine J_seq ?_
  refine J_seq ?_
  refine J_region ?_
  refine L_v (opv_move rfl) rfl ?_
  refine L_v (opv_lss rfl rfl) rfl ?_
  refine L_v (opv_move rfl) rfl ?_
  refine L_gf rfl rfl (fun h1 => ?_) (fun h1 => ?_) (fun _ h => by cases h; rfl)
  · refine L_v (opv_move rfl) rfl ?_
    refine L_gf_on h1 rfl rfl ?_
    refine L_v (opv_gtr rfl rfl) rfl ?_
    refine L_v (opv_pick_f rfl h1 rfl) rfl ?_
    refine L_v (opv_move rfl) rfl ?_
    refine L_gf rfl rfl (fun h2 => ?_) (fun h2 => ?_) (fun _ h => by cases h; rfl)
    · refine L_v (opv_move rfl) rfl ?_
      refine L_gf_on h2 rfl rfl ?_
      refine L_v (opv_lss rfl rfl) rfl ?_
      refine L_v (opv_pick_f rfl h2 rfl) rfl ?_
      refine L_v (opv_move rfl) rfl ?_
      refine L_gf rfl rfl (fun h3 => ?_) (fun h3 => ?_) (fun _ h => by cases h; rfl)
      · refine L_v (opv_move rfl) rfl ?_
        refine L_gf_on h3 rfl rfl ?_
        refine L_v (opv_gtr rfl rfl) rfl ?_
        refine L_v (opv_pick_f rfl h3 rfl) rfl ?_
        refine L_nil ?_
        refine K_then ?_
        refine J_cond rfl (fun h4 => ?_) (fun h4 => (by exfalso; omega))
        refine J_seq ?_
        refine J_region ?_
        refine L_v (opv_assign rfl) rfl ?_
        refine L_v (opv_assign rfl) rfl ?_
        refine L_nil ?_
        refine K_then ?_
        refine J_ret ?_
        refine K_then_ret ?_
        exact K_ret2 rfl rfl rfl () trivial rfl (Ent.refl _)
      · refine L_gf_off h3 rfl rfl ?_ (fun _ h => by cases h; rfl)
        refine L_v (opv_pick_t rfl h3 rfl) rfl ?_
        refine L_nil ?_
        refine K_then ?_
        refine J_cond_true rfl ?_
        refine J_seq ?_
        refine J_region ?_
        refine L_v (opv_assign rfl) rfl ?_
        refine L_v (opv_assign rfl) rfl ?_
        refine L_nil ?_
        refine K_then ?_
        refine J_ret ?_
        refine K_then_ret ?_
        exact K_ret2 rfl rfl rfl () trivial rfl (Ent.refl _)
    · refine L_gf_off h2 rfl rfl ?_ (fun _ h => by cases h; rfl)
      refine L_v (opv_pick_t rfl h2 rfl) rfl ?_
      refine L_v (opv_move rfl) rfl ?_
      refine L_gskip rfl rfl rfl ?_ (fun _ h => by cases h; rfl)
      refine L_gskip rfl rfl rfl ?_ (fun _ h => by cases h; rfl)
      first
        | refine L_v (opv_pick_tt rfl rfl) rfl ?_
        | refine L_v (opv_pick_ff rfl rfl) rfl ?_
        | refine L_v (opv_pick rfl rfl rfl) rfl ?_
      refine L_nil ?_
      refine K_then ?_
      refine J_cond_true rfl ?_
      refine J_seq ?_
      refine J_region ?_
      refine L_v (opv_assign rfl) rfl ?_
      refine L_v (opv_assign rfl) rfl ?_
      refine L_nil ?_
      refine K_then ?_
      refine J_ret ?_
      refine K_then_ret ?_
      exact K_ret2 rfl rfl rfl () trivial rfl (Ent.refl _)
  · refine L_gf_off h1 rfl rfl ?_ (fun _ h => by cases h; rfl)
    refine L_v (opv_pick_t rfl h1 rfl) rfl ?_
    refine L_v (opv_move rfl) rfl ?_
    refine L_gskip rfl rfl rfl ?_ (fun _ h => by cases h; rfl)
    refine L_gskip rfl rfl rfl ?_ (fun _ h => by cases h; rfl)
    first
      | refine L_v (opv_pick_tt rfl rfl) rfl ?_
      | refine L_v (opv_pick_ff rfl rfl) rfl ?_
      | refine L_v (opv_pick rfl rfl rfl) rfl ?_
    refine L_v (opv_move rfl) rfl ?_
    refine L_gskip rfl rfl rfl ?_ (fun _ h => by cases h; rfl)
    refine L_gskip rfl rfl rfl ?_ (fun _ h => by cases h; rfl)
    first
      | refine L_v (opv_pick_tt rfl rfl) rfl ?_
      | refine L_v (opv_pick_ff rfl rfl) rfl ?_
      | refine L_v (opv_pick rfl rfl rfl) rfl ?_
    refine L_nil ?_
    refine K_then ?_
    refine J_cond_true rfl ?_
    refine J_seq ?_
    refine J_region ?_
    refine L_v (opv_assign rfl) rfl ?_
    refine L_v (opv_assign rfl) rfl ?_
    refine L_nil ?_
    refine K_then ?_
    refine J_ret ?_
    refine K_then_ret ?_
    exact K_ret2 rfl rfl rfl () trivial rfl (Ent.refl _)

theorem Same_spec (A B : Option Addr) (c d : Nat) (L : List Sn) (hL : L.length ≤ 1000000000) : FSpec Try.prog 34 #[.slice A L.length c, .slice B L.length d] ((sep (Own 30 4 (.slice A L.length c) L.length (flat L)) (Own 48 4 (.slice B L.length d) L.length (flat L)))) (fun _ : Unit => True) (fun _ => .bool true) (fun _ => (sep (Own 30 4 (.slice A L.length c) L.length (flat L)) (Own 48 4 (.slice B L.length d) L.length (flat L)))) := by
  refine FSpec.enter' Try.func34 rfl Try.ntmps34 rfl fun σ F => ?_
  refine J_eq _ (sep_assoc _ _ _) ?_
  refine J_know (fun w hs => own_nonnil hs) fun hA => ?_
  refine J_know (fun w hs => own_nonnil hs.drop) fun hB => ?_
  refine J_seq ?_
  refine J_region ?_
  refine L_v (opv_assign rfl) rfl ?_
  refine L_nil ?_
  refine K_then ?_
  refine J_seq ?_
  refine J_seq ?_
  refine J_region ?_
  refine L_v (opv_move rfl) rfl ?_
  first
    | refine L_v (opv_lenL rfl) rfl ?_
    | refine L_v (opv_lenS rfl) rfl ?_
  refine L_v (opv_move rfl) rfl ?_
  first
    | refine L_v (opv_lenL rfl) rfl ?_
    | refine L_v (opv_lenS rfl) rfl ?_
  refine L_v ((opv_neq rfl rfl).bool_f (fun n => n rfl)) rfl ?_
  refine L_nil ?_
  refine K_then ?_
  refine J_cond_false rfl ?_
  refine J_skip ?_
  refine K_then ?_
  refine J_seq ?_
  refine J_seq ?_
  refine J_region ?_
  refine L_v (opv_assign rfl) rfl ?_
  refine L_nil ?_
  refine K_then ?_
  refine J_block ?_
  refine J_loop (X := Nat) (fun i => [(0, .slice A L.length c), (1, .slice B L.length d), (5, .int .i64 i)]) (fun i => (sep (Own 30 4 (.slice A L.length c) L.length (flat L)) (sep (Own 48 4 (.slice B L.length d) L.length (flat L)) (F)))) (fun i => i ≤ L.length) (fun i => L.length - i) (0) (Nat.zero_le _) ⟨rfl, rfl, rfl, trivial⟩ (Ent.refl _) (fun i hi => ?_)
  refine J_seq ?_
  refine J_seq ?_
  refine J_region ?_
  refine L_v (opv_move rfl) rfl ?_
  refine L_v (opv_move rfl) rfl ?_
  first
    | refine L_v (opv_lenL rfl) rfl ?_
    | refine L_v (opv_lenS rfl) rfl ?_
  refine L_v (opv_lss rfl rfl) rfl ?_
  refine L_nil ?_
  refine K_then ?_
  refine J_cond rfl (fun h1 => ?_) (fun h1 => ?_)
  · have hil : i < L.length := by omega
    obtain ⟨z, hz⟩ : ∃ z, L[i]? = some z := ⟨_, List.getElem?_eq_getElem hil⟩
    obtain ⟨b1, o1, rfl⟩ : ∃ b o, A = some (ad b o) := by rcases hA with ⟨_, _, h, _⟩ | h; omega; exact h
    obtain ⟨b2, o2, rfl⟩ : ∃ b o, B = some (ad b o) := by rcases hB with ⟨_, _, h, _⟩ | h; omega; exact h
    refine J_skip ?_
    refine K_then ?_
    refine J_seq ?_
    refine J_block ?_
    refine J_seq ?_
    refine J_quiet Try.mixed (by kernel_rfl) ?_
    refine Q_v (opv_move rfl) rfl ?_
    refine Q_v (opv_move rfl) rfl ?_
    first
      | refine Q_v (opv_indexAddr rfl rfl (by omega)) rfl ?_
      | refine Q_v (opv_indexAddrA rfl rfl (by omega)) rfl ?_
    first
      | refine Q_v (opv_fieldAddr0 rfl) rfl ?_
      | refine Q_v (opv_fieldAddr rfl) rfl ?_
    refine Q_v (opv_load rfl (Rd.of_take (S := Own 30 4 (.slice (some (ad b1 o1)) L.length c) L.length (flat L)) ((RdS.own (m := 4) (e := 30) (c := c) enc_len (.inr ⟨b1, o1, rfl⟩)).rd b1 o1 rfl i z 0 _ hz rfl))) rfl ?_
    refine Q_v (opv_move rfl) rfl ?_
    refine Q_v (opv_move rfl) rfl ?_
    first
      | refine Q_v (opv_indexAddr rfl rfl (by omega)) rfl ?_
      | refine Q_v (opv_indexAddrA rfl rfl (by omega)) rfl ?_
    first
      | refine Q_v (opv_fieldAddr0 rfl) rfl ?_
      | refine Q_v (opv_fieldAddr rfl) rfl ?_
    refine Q_v (opv_load rfl (Rd.of_take (S := Own 48 4 (.slice (some (ad b2 o2)) L.length d) L.length (flat L)) ((RdS.own (m := 4) (e := 48) (c := d) enc_len (.inr ⟨b2, o2, rfl⟩)).rd b2 o2 rfl i z 0 _ hz rfl))) rfl ?_
    refine Q_v ((opv_neq rfl rfl).bool_f (fun n => n rfl)) rfl ?_
    refine Q_v (opv_move rfl) rfl ?_
    refine Q_gon rfl rfl rfl ?_
    refine Q_v (opv_move rfl) rfl ?_
    refine Q_gon rfl rfl rfl ?_
    refine Q_v (opv_move rfl) rfl ?_
    refine Q_gon rfl rfl rfl ?_
    first
      | refine Q_v (opv_indexAddr rfl rfl (by omega)) rfl ?_
      | refine Q_v (opv_indexAddrA rfl rfl (by omega)) rfl ?_
    refine Q_gon rfl rfl rfl ?_
    first
      | refine Q_v (opv_fieldAddr0 rfl) rfl ?_
      | refine Q_v (opv_fieldAddr rfl) rfl ?_
    refine Q_gon rfl rfl rfl ?_
    refine Q_v (opv_load rfl (Rd.of_take (S := Own 30 4 (.slice (some (ad b1 o1)) L.length c) L.length (flat L)) ((RdS.own (m := 4) (e := 30) (c := c) enc_len (.inr ⟨b1, o1, rfl⟩)).rd b1 o1 rfl i z 1 _ hz rfl))) rfl ?_
    refine Q_gon rfl rfl rfl ?_
    refine Q_v (opv_move rfl) rfl ?_
    refine Q_gon rfl rfl rfl ?_
    refine Q_v (opv_move rfl) rfl ?_
    refine Q_gon rfl rfl rfl ?_
    first
      | refine Q_v (opv_indexAddr rfl rfl (by omega)) rfl ?_
      | refine Q_v (opv_indexAddrA rfl rfl (by omega)) rfl ?_
    refine Q_gon rfl rfl rfl ?_
    first
      | refine Q_v (opv_fieldAddr0 rfl) rfl ?_
      | refine Q_v (opv_fieldAddr rfl) rfl ?_
    refine Q_gon rfl rfl rfl ?_
    refine Q_v (opv_load rfl (Rd.of_take (S := Own 48 4 (.slice (some (ad b2 o2)) L.length d) L.length (flat L)) ((RdS.own (m := 4) (e := 48) (c := d) enc_len (.inr ⟨b2, o2, rfl⟩)).rd b2 o2 rfl i z 1 _ hz rfl))) rfl ?_
    refine Q_gon rfl rfl rfl ?_
    refine Q_v ((opv_neqS rfl rfl).bool_f (fun n => n rfl)) rfl ?_
    first
      | refine Q_v (opv_pick_tt rfl rfl) rfl ?_
      | refine Q_v (opv_pick_ff rfl rfl) rfl ?_
      | refine Q_v (opv_pick rfl rfl rfl) rfl ?_
    refine Q_v (opv_move rfl) rfl ?_
    refine Q_gon rfl rfl rfl ?_
    refine Q_v (opv_move rfl) rfl ?_
    refine Q_gon rfl rfl rfl ?_
    refine Q_v (opv_move rfl) rfl ?_
    refine Q_gon rfl rfl rfl ?_
    first
      | refine Q_v (opv_indexAddr rfl rfl (by omega)) rfl ?_
      | refine Q_v (opv_indexAddrA rfl rfl (by omega)) rfl ?_
    refine Q_gon rfl rfl rfl ?_
    first
      | refine Q_v (opv_fieldAddr0 rfl) rfl ?_
      | refine Q_v (opv_fieldAddr rfl) rfl ?_
    refine Q_gon rfl rfl rfl ?_
    refine Q_v (opv_load rfl (Rd.of_take (S := Own 30 4 (.slice (some (ad b1 o1)) L.length c) L.length (flat L)) ((RdS.own (m := 4) (e := 30) (c := c) enc_len (.inr ⟨b1, o1, rfl⟩)).rd b1 o1 rfl i z 2 _ hz rfl))) rfl ?_
    refine Q_gon rfl rfl rfl ?_
    refine Q_v (opv_move rfl) rfl ?_
    refine Q_gon rfl rfl rfl ?_
    refine Q_v (opv_move rfl) rfl ?_
    refine Q_gon rfl rfl rfl ?_
    first
      | refine Q_v (opv_indexAddr rfl rfl (by omega)) rfl ?_
      | refine Q_v (opv_indexAddrA rfl rfl (by omega)) rfl ?_
    refine Q_gon rfl rfl rfl ?_
    first
      | refine Q_v (opv_fieldAddr0 rfl) rfl ?_
      | refine Q_v (opv_fieldAddr rfl) rfl ?_
    refine Q_gon rfl rfl rfl ?_
    refine Q_v (opv_load rfl (Rd.of_take (S := Own 48 4 (.slice (some (ad b2 o2)) L.length d) L.length (flat L)) ((RdS.own (m := 4) (e := 48) (c := d) enc_len (.inr ⟨b2, o2, rfl⟩)).rd b2 o2 rfl i z 2 _ hz rfl))) rfl ?_
    refine Q_gon rfl rfl rfl ?_
    refine Q_v ((opv_neq rfl rfl).bool_f (fun n => n rfl)) rfl ?_
    first
      | refine Q_v (opv_pick_tt rfl rfl) rfl ?_
      | refine Q_v (opv_pick_ff rfl rfl) rfl ?_
      | refine Q_v (opv_pick rfl rfl rfl) rfl ?_
    refine Q_v (opv_move rfl) rfl ?_
    refine Q_gon rfl rfl rfl ?_
    refine Q_v (opv_move rfl) rfl ?_
    refine Q_gon rfl rfl rfl ?_
    refine Q_v (opv_move rfl) rfl ?_
    refine Q_gon rfl rfl rfl ?_
    first
      | refine Q_v (opv_indexAddr rfl rfl (by omega)) rfl ?_
      | refine Q_v (opv_indexAddrA rfl rfl (by omega)) rfl ?_
    refine Q_gon rfl rfl rfl ?_
    first
      | refine Q_v (opv_fieldAddr0 rfl) rfl ?_
      | refine Q_v (opv_fieldAddr rfl) rfl ?_
    refine Q_gon rfl rfl rfl ?_
    refine Q_v (opv_load rfl (Rd.of_take (S := Own 30 4 (.slice (some (ad b1 o1)) L.length c) L.length (flat L)) ((RdS.own (m := 4) (e := 30) (c := c) enc_len (.inr ⟨b1, o1, rfl⟩)).rd b1 o1 rfl i z 3 _ hz rfl))) rfl ?_
    refine Q_gon rfl rfl rfl ?_
    refine Q_v (opv_move rfl) rfl ?_
    refine Q_gon rfl rfl rfl ?_
    refine Q_v (opv_move rfl) rfl ?_
    refine Q_gon rfl rfl rfl ?_
    first
      | refine Q_v (opv_indexAddr rfl rfl (by omega)) rfl ?_
      | refine Q_v (opv_indexAddrA rfl rfl (by omega)) rfl ?_
    refine Q_gon rfl rfl rfl ?_
    first
      | refine Q_v (opv_fieldAddr0 rfl) rfl ?_
      | refine Q_v (opv_fieldAddr rfl) rfl ?_
    refine Q_gon rfl rfl rfl ?_
    refine Q_v (opv_load rfl (Rd.of_take (S := Own 48 4 (.slice (some (ad b2 o2)) L.length d) L.length (flat L)) ((RdS.own (m := 4) (e := 48) (c := d) enc_len (.inr ⟨b2, o2, rfl⟩)).rd b2 o2 rfl i z 3 _ hz rfl))) rfl ?_
    refine Q_gon rfl rfl rfl ?_
    refine Q_v ((opv_neq rfl rfl).bool_f (fun n => n rfl)) rfl ?_
    first
      | refine Q_v (opv_pick_tt rfl rfl) rfl ?_
      | refine Q_v (opv_pick_ff rfl rfl) rfl ?_
      | refine Q_v (opv_pick rfl rfl rfl) rfl ?_
    refine QL_nil ?_
    refine K_then ?_
    refine J_cond_false rfl ?_
    refine J_skip ?_
    refine K_block ?_
    refine K_then ?_
    refine J_region ?_
    refine L_v (opv_move rfl) rfl ?_
    first
      | refine L_v (opv_add64 rfl rfl (by omega)) rfl ?_
      | refine L_v (opv_addS rfl rfl (by omega)) rfl ?_
      | refine L_v (opv_add rfl rfl) rfl ?_
    refine L_v (opv_assign rfl) rfl ?_
    refine L_nil ?_
    exact K_loop (i + 1) (by omega) (by omega) ⟨rfl, rfl, rfl, trivial⟩ (Ent.refl _)
  · refine J_exit ?_
    refine K_then_exit ?_
    refine K_then_exit ?_
    refine K_block_here ?_
    refine K_then ?_
    refine J_seq ?_
    refine J_region ?_
    refine L_v (opv_assign rfl) rfl ?_
    refine L_nil ?_
    refine K_then ?_
    refine J_ret ?_
    exact K_ret1 rfl rfl () trivial rfl (Ent.of (sep_assoc _ _ _).symm)

end Go.Proofs.Ytpnpdliimidoaaa
