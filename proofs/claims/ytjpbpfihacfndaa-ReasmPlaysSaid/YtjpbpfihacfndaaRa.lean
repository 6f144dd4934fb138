/- Contracts of functions of the package reasm and of the library that they call, each proved by a walk over its code; they are used by the texts that import this one. -/
import Derived.Test.YtjpbpfihacfndaaFc
import Derived.Test.YtjpbpfihacfndaaR
import Derived.Test.YtjpbpfihacfndaaZ
import Derived.Test.YtjpbpfihacfndaaH
namespace Go.Proofs.Ytjpbpfihacfndaa
open Go.SLA
set_option maxRecDepth 100000
set_option linter.unusedVariables false
set_option linter.unusedSimpArgs false
attribute [local irreducible] J L K QL Rg FSpec OpV OpX Rd Back
structure Ky where
  s0 : Int
  s1 : Int
  s2 : Int
  s3 : Int
  d0 : Int
  d1 : Int
  d2 : Int
  d3 : Int
  proto : Int
  id : Int
def encKy (x : Ky) : List Value := [.int .u8 x.s0, .int .u8 x.s1, .int .u8 x.s2, .int .u8 x.s3, .int .u8 x.d0, .int .u8 x.d1, .int .u8 x.d2, .int .u8 x.d3, .int .i64 x.proto, .int .i64 x.id]
def okKy (x : Ky) : Prop := (Lit.int .u8 x.s0).wf = true ∧ (Lit.int .u8 x.s1).wf = true ∧ (Lit.int .u8 x.s2).wf = true ∧ (Lit.int .u8 x.s3).wf = true ∧ (Lit.int .u8 x.d0).wf = true ∧ (Lit.int .u8 x.d1).wf = true ∧ (Lit.int .u8 x.d2).wf = true ∧ (Lit.int .u8 x.d3).wf = true ∧ (Lit.int .i64 x.proto).wf = true ∧ (Lit.int .i64 x.id).wf = true
abbrev ksKy : List CK := [.int .u8, .int .u8, .int .u8, .int .u8, .int .u8, .int .u8, .int .u8, .int .u8, .int .i64, .int .i64]
theorem encKy_len (x : Ky) : (encKy x).length = 10 := rfl
theorem decKy (cs : List Value) (h : Kinds ksKy cs) : ∃ x, cs = encKy x ∧ okKy x := by
  obtain ⟨hl, hk⟩ := h
  obtain ⟨v0, g0, x0, rfl, w0⟩ := hk 0 _ rfl
  obtain ⟨v1, g1, x1, rfl, w1⟩ := hk 1 _ rfl
  obtain ⟨v2, g2, x2, rfl, w2⟩ := hk 2 _ rfl
  obtain ⟨v3, g3, x3, rfl, w3⟩ := hk 3 _ rfl
  obtain ⟨v4, g4, x4, rfl, w4⟩ := hk 4 _ rfl
  obtain ⟨v5, g5, x5, rfl, w5⟩ := hk 5 _ rfl
  obtain ⟨v6, g6, x6, rfl, w6⟩ := hk 6 _ rfl
  obtain ⟨v7, g7, x7, rfl, w7⟩ := hk 7 _ rfl
  obtain ⟨v8, g8, x8, rfl, w8⟩ := hk 8 _ rfl
  obtain ⟨v9, g9, x9, rfl, w9⟩ := hk 9 _ rfl
  match cs, hl with
  | [c0, c1, c2, c3, c4, c5, c6, c7, c8, c9], _ =>
    simp only [List.getElem?_cons_zero, List.getElem?_cons_succ, Option.some.injEq] at g0 g1 g2 g3 g4 g5 g6 g7 g8 g9
    exact ⟨⟨x0, x1, x2, x3, x4, x5, x6, x7, x8, x9⟩, by simp only [encKy, *], ⟨w0, w1, w2, w3, w4, w5, w6, w7, w8, w9⟩⟩


instance : MapP Try.prog 97 70 := ⟨by kernel_rfl⟩
instance : DecidableEq Ky := fun a b =>
  if h : a.s0 = b.s0 ∧ a.s1 = b.s1 ∧ a.s2 = b.s2 ∧ a.s3 = b.s3 ∧ a.d0 = b.d0 ∧ a.d1 = b.d1 ∧ a.d2 = b.d2 ∧ a.d3 = b.d3 ∧ a.proto = b.proto ∧ a.id = b.id then isTrue (by cases a; cases b; simp_all) else isFalse (by rintro rfl; simp at h)
theorem encKy_inj {a b : Ky} : encKy a = encKy b ↔ a = b := by
  constructor
  · intro h
    cases a; cases b
    simp only [encKy, List.cons.injEq, Value.int.injEq, true_and, and_true] at h
    simp [h]
  · rintro rfl; rfl
theorem encKy_one (x : Ky) : ∀ u ∈ encKy x, u.oneCell' = true := by
  intro u hu
  simp only [encKy, List.mem_cons, List.not_mem_nil, or_false] at hu
  rcases hu with rfl | rfl | rfl | rfl | rfl | rfl | rfl | rfl | rfl | rfl <;> rfl
theorem shKy (x : Ky) : Shape ksKy (encKy x) := by simp [ksKy, encKy, Shape, CK.sh]
/-- Whose part a packet is. -/
def kyOf (p : Pk) : Ky := ⟨p.s0, p.s1, p.s2, p.s3, p.d0, p.d1, p.d2, p.d3, p.proto, p.id⟩
abbrev flatK (L : List Ky) : List Value := L.flatMap encKy
theorem flatK_len (L : List Ky) : (flatK L).length = L.length * 10 := flat_len encKy_len L
/-- Keys without one. -/
def wo (L : List Ky) (k : Ky) : List Ky := L.filter fun x => !decide (x = k)
theorem wo_app (L M : List Ky) (k : Ky) : wo (L ++ M) k = wo L k ++ wo M k := List.filter_append ..
theorem wo_one_ne {x k : Ky} (h : ¬ x = k) : wo [x] k = [x] := by unfold wo; simp [h]
theorem wo_one_eq {x k : Ky} (h : x = k) : wo [x] k = [] := by unfold wo; simp [h]
theorem wo_none {L : List Ky} {k : Ky} (h : ∀ x ∈ L, x ≠ k) : wo L k = L := by
  unfold wo
  rw [List.filter_eq_self]
  intro x hx
  simp [h x hx]
/-- The first place of a key. -/
def fix (L : List Ky) (k : Ky) : Nat := L.findIdx fun x => decide (x = k)
theorem klt {α : Type} {L : List α} {j : Nat} {x : α} (h : L[j]? = some x) : j < L.length := by
  rcases Nat.lt_or_ge j L.length with h' | h'
  · exact h'
  · rw [List.getElem?_eq_none h'] at h; cases h
theorem fix_here {L : List Ky} {k x : Ky} {j : Nat} (hj : j ≤ fix L k) (hx : L[j]? = some x) (h : x = k) : fix L k = j := by
  have hl := klt hx
  rw [List.getElem?_eq_getElem hl] at hx
  simp only [Option.some.injEq] at hx
  rcases Nat.lt_or_ge j (fix L k) with h' | h'
  · have := List.not_of_lt_findIdx h'
    rw [hx] at this
    simp [h] at this
  · omega
theorem fix_next {L : List Ky} {k x : Ky} {j : Nat} (hj : j ≤ fix L k) (hx : L[j]? = some x) (h : ¬ x = k) : j + 1 ≤ fix L k := by
  have hl := klt hx
  rw [List.getElem?_eq_getElem hl] at hx
  simp only [Option.some.injEq] at hx
  rcases Nat.lt_or_ge j (fix L k) with h' | h'
  · omega
  · have e : fix L k = j := by omega
    have hlt : L.findIdx (fun x => decide (x = k)) < L.length := by show fix L k < _; omega
    have := List.findIdx_getElem (w := hlt)
    have e2 : L[L.findIdx (fun x => decide (x = k))] = x := by rw [← hx]; congr 1
    rw [e2] at this
    simp at this
    exact absurd this h
theorem fix_le (L : List Ky) (k : Ky) : fix L k ≤ L.length := List.findIdx_le_length
theorem fix_at {L : List Ky} {k : Ky} (h : fix L k < L.length) : L[fix L k]? = some k ∧ wo (L.take (fix L k)) k = L.take (fix L k) := by
  have hlt : L.findIdx (fun x => decide (x = k)) < L.length := h
  have := List.findIdx_getElem (w := hlt)
  simp only [decide_eq_true_eq] at this
  refine ⟨?_, wo_none fun x hx hxk => ?_⟩
  · rw [List.getElem?_eq_getElem h]; exact congrArg some this
  · obtain ⟨j, hj⟩ := List.getElem?_of_mem hx
    have hjl := klt hj
    rw [List.length_take] at hjl
    have hj2 : j < fix L k := by omega
    rw [List.getElem?_take_of_lt hj2] at hj
    have := fix_here (by omega) hj hxk
    omega
theorem fix_no {L : List Ky} {k : Ky} (h : ¬ fix L k < L.length) : wo L k = L := wo_none fun x hx hxk => by
  obtain ⟨j, hj⟩ := List.getElem?_of_mem hx
  have hjl := klt hj
  have := fix_here (by omega) hj hxk
  omega
theorem tk_snoc {α : Type} {q : List α} {k : Nat} {x : α} (hx : q[k]? = some x) : q.take (k + 1) = q.take k ++ [x] := by
  have hk := klt hx
  rw [List.getElem?_eq_getElem hk] at hx
  simp only [Option.some.injEq] at hx
  rw [List.take_succ_eq_append_getElem hk, hx]
theorem flatK_set {M : List Ky} {i : Nat} {x : Ky} (pre post : List Value) (hi : i < M.length) : pre ++ flatK (M.set i x) ++ post = (pre ++ flatK M ++ post).take (pre.length + i * 10) ++ encKy x ++ (pre ++ flatK M ++ post).drop (pre.length + i * 10 + (encKy x).length) := by
  have h1 : M = M.take i ++ ([M[i]] ++ M.drop (i + 1)) := by rw [List.singleton_append, ← List.drop_eq_getElem_cons hi, List.take_append_drop]
  have h2 : M.set i x = M.take i ++ ([x] ++ M.drop (i + 1)) := by rw [List.set_eq_take_append_cons_drop, if_pos hi]; rfl
  have l1 : (flatK (M.take i)).length = i * 10 := by rw [flatK_len, List.length_take]; congr 1; omega
  have e1 : flatK M = flatK (M.take i) ++ (encKy M[i] ++ flatK (M.drop (i + 1))) := by
    refine (congrArg flatK h1).trans ?_
    unfold flatK
    rw [List.flatMap_append, List.flatMap_append]
    simp only [List.flatMap_cons, List.flatMap_nil, List.append_nil]
  have e2 : flatK (M.set i x) = flatK (M.take i) ++ (encKy x ++ flatK (M.drop (i + 1))) := by rw [h2]; simp [flatK]
  have a1 : (pre ++ flatK M ++ post).take (pre.length + i * 10) = pre ++ flatK (M.take i) := by
    rw [e1, show pre ++ (flatK (M.take i) ++ (encKy M[i] ++ flatK (M.drop (i + 1)))) ++ post = (pre ++ flatK (M.take i)) ++ ((encKy M[i] ++ flatK (M.drop (i + 1))) ++ post) by simp]
    exact List.take_left' (by rw [List.length_append, l1])
  have a2 : (pre ++ flatK M ++ post).drop (pre.length + i * 10 + (encKy x).length) = flatK (M.drop (i + 1)) ++ post := by
    rw [e1, show pre ++ (flatK (M.take i) ++ (encKy M[i] ++ flatK (M.drop (i + 1)))) ++ post = (pre ++ flatK (M.take i) ++ encKy M[i]) ++ (flatK (M.drop (i + 1)) ++ post) by simp]
    exact List.drop_left' (by simp only [List.length_append, l1]; rfl)
  rw [a1, a2, e2]
  simp

theorem key_spec (p : Pk) : FSpec Try.prog 52 #[.agg [.int .i64 p.id, .bool p.more, .int .i64 p.off, .int .i64 p.ttl, .int .i64 p.proto, .int .u8 p.s0, .int .u8 p.s1, .int .u8 p.s2, .int .u8 p.s3, .int .u8 p.d0, .int .u8 p.d1, .int .u8 p.d2, .int .u8 p.d3, .string p.data].toArray] (emp) (fun _ : Unit => True) (fun _ => .agg (encKy (kyOf p)).toArray) (fun _ => emp) := by
  refine FSpec.enter' Try.func52 rfl Try.ntmps52 rfl fun σ F => ?_
  refine J_emp ?_
  refine J_seq ?_
  refine J_region ?_
  refine L_x rfl (opx_box (l := [.int .i64 p.id, .bool p.more, .int .i64 p.off, .int .i64 p.ttl, .int .i64 p.proto, .int .u8 p.s0, .int .u8 p.s1, .int .u8 p.s2, .int .u8 p.s3, .int .u8 p.d0, .int .u8 p.d1, .int .u8 p.d2, .int .u8 p.d3, .string p.data]) rfl rfl) (fun b1 _ => ?_)
  refine L_x rfl (opx_alloc rfl) (fun b2 _ => ?_)
  refine L_nil ?_
  refine K_then ?_
  refine J_seq ?_
  refine J_region ?_
  first
    | refine L_v (opv_fieldAddr0 rfl) rfl ?_
    | refine L_v (opv_fieldAddr rfl) rfl ?_
  refine L_v (opv_loadS rfl) rfl ?_
  first
    | refine L_v (opv_fieldAddr0 rfl) rfl ?_
    | refine L_v (opv_fieldAddr rfl) rfl ?_
  refine L_v (opv_loadS rfl) rfl ?_
  first
    | refine L_v (opv_fieldAddr0 rfl) rfl ?_
    | refine L_v (opv_fieldAddr rfl) rfl ?_
  refine L_v (opv_load rfl (Rd.look rfl)) rfl ?_
  first
    | refine L_v (opv_fieldAddr0 rfl) rfl ?_
    | refine L_v (opv_fieldAddr rfl) rfl ?_
  refine L_v (opv_load rfl (Rd.look rfl)) rfl ?_
  refine L_v (opv_build rfl) rfl ?_
  refine L_x rfl (opx_store rfl rfl rfl (by simp [Value.oneCell'])) (fun _ _ => ?_)
  refine L_nil ?_
  refine K_then ?_
  refine J_ret ?_
  exact K_ret1c (Q := fun _ _ _ => True) rfl rfl rfl () trivial rfl Ent.take

/-- What is wrong with a part behind so many bytes. -/
def sndC (p : Pk) (a : Nat) : Int := if a % 8 ≠ 0 ∨ p.off ≠ ((a / 8 : Nat) : Int) then 25 else if p.more = true ∧ (p.data.size = 0 ∨ p.data.size % 8 ≠ 0) then 15 else if 8200 < a + p.data.size then 11 else 0
theorem bytes0 {s : ByteArray} : s = ⟨#[]⟩ ↔ s.size = 0 := ⟨fun h => by rw [h]; rfl, fun h => size_zero h⟩

theorem sound_spec (p : Pk) (a : Nat) (ha : a ≤ 1000000) (hd : p.data.size ≤ 140737488355327) : FSpec Try.prog 53 #[.agg [.int .i64 p.id, .bool p.more, .int .i64 p.off, .int .i64 p.ttl, .int .i64 p.proto, .int .u8 p.s0, .int .u8 p.s1, .int .u8 p.s2, .int .u8 p.s3, .int .u8 p.d0, .int .u8 p.d1, .int .u8 p.d2, .int .u8 p.d3, .string p.data].toArray, .int .i64 a] (emp) (fun _ : Unit => True) (fun _ => .int .i64 (sndC p a)) (fun _ => emp) := by
  refine FSpec.enter' Try.func53 rfl Try.ntmps53 rfl fun σ F => ?_
  refine J_emp ?_
  refine J_seq ?_
  refine J_region ?_
  refine L_x rfl (opx_box (l := [.int .i64 p.id, .bool p.more, .int .i64 p.off, .int .i64 p.ttl, .int .i64 p.proto, .int .u8 p.s0, .int .u8 p.s1, .int .u8 p.s2, .int .u8 p.s3, .int .u8 p.d0, .int .u8 p.d1, .int .u8 p.d2, .int .u8 p.d3, .string p.data]) rfl rfl) (fun b2 _ => ?_)
  refine L_v (opv_assign rfl) rfl ?_
  refine L_nil ?_
  refine K_then ?_
  refine J_seq ?_
  refine J_block ?_
  refine J_seq ?_
  refine J_region ?_
  refine L_v (opv_move rfl) rfl ?_
  refine L_v ((opv_remP rfl rfl (by omega)).as (v' := .int .i64 ((a % 8 : Nat) : Int)) rfl) rfl ?_
  first
    | refine L_v (opv_neq rfl rfl) rfl ?_
    | refine L_v (opv_neqS rfl rfl) rfl ?_
    | refine L_v (opv_neqNil rfl rfl) rfl ?_
    | refine L_v (opv_neqB rfl rfl) rfl ?_
  refine L_v (opv_move rfl) rfl ?_
  refine L_gf rfl rfl (fun h1 => ?_) (fun h1 => ?_) (fun _ h => by cases h; rfl)
  · first
      | refine L_v (opv_fieldAddr0 rfl) rfl ?_
      | refine L_v (opv_fieldAddr rfl) rfl ?_
    refine L_gf_on h1 rfl rfl ?_
    refine L_v (opv_load rfl (Rd.look rfl)) rfl ?_
    refine L_gf_on h1 rfl rfl ?_
    refine L_v (opv_move rfl) rfl ?_
    refine L_gf_on h1 rfl rfl ?_
    refine L_v ((opv_quoP rfl rfl (by omega)).as (v' := .int .i64 ((a / 8 : Nat) : Int)) rfl) rfl ?_
    refine L_gf_on h1 rfl rfl ?_
    first
      | refine L_v (opv_neq rfl rfl) rfl ?_
      | refine L_v (opv_neqS rfl rfl) rfl ?_
      | refine L_v (opv_neqNil rfl rfl) rfl ?_
      | refine L_v (opv_neqB rfl rfl) rfl ?_
    refine L_v (opv_pick_f rfl h1 rfl) rfl ?_
    refine L_v (opv_assign rfl) rfl ?_
    refine L_nil ?_
    refine K_then ?_
    refine J_cond rfl (fun h2 => ?_) (fun h2 => ?_)
    · refine J_seq ?_
      refine J_region ?_
      refine L_v (opv_assign rfl) rfl ?_
      refine L_nil ?_
      refine K_then ?_
      refine J_ret ?_
      refine K_block_ret ?_
      refine K_then_ret ?_
      exact K_ret1 rfl rfl () trivial (congrArg (Value.int .i64) (by unfold sndC; first | rw [if_pos (by omega)] | rw [if_neg (by omega), if_pos ⟨by assumption, by omega⟩] | rw [if_neg (by omega), if_neg (by rintro ⟨g1, g2⟩; first | contradiction | omega), if_pos (by omega)] | rw [if_neg (by omega), if_neg (by rintro ⟨g1, g2⟩; first | contradiction | omega), if_neg (by omega)])) Ent.take
    · refine J_seq ?_
      refine J_region ?_
      first
        | refine L_v (opv_fieldAddr0 rfl) rfl ?_
        | refine L_v (opv_fieldAddr rfl) rfl ?_
      refine L_v ((opv_load rfl (Rd.look rfl)).as (v' := .bool (decide (p.more = true))) (by simp)) rfl ?_
      refine L_v (opv_move rfl) rfl ?_
      refine L_gt rfl rfl (fun h3 => ?_) (fun h3 => ?_) (fun _ h => by cases h; rfl)
      · first
          | refine L_v (opv_fieldAddr0 rfl) rfl ?_
          | refine L_v (opv_fieldAddr rfl) rfl ?_
        refine L_gt_on h3 rfl rfl ?_
        refine L_v (opv_load rfl (Rd.look rfl)) rfl ?_
        refine L_gt_on h3 rfl rfl ?_
        refine L_v ((opv_eqlS rfl rfl).as (v' := .bool (decide (p.data.size = 0))) (congrArg Value.bool (decide_eq_decide.2 bytes0))) rfl ?_
        refine L_gt_on h3 rfl rfl ?_
        refine L_v (opv_move rfl) rfl ?_
        refine L_gf rfl rfl (fun h4 => ?_) (fun h4 => ?_) (fun _ h => by cases h; rfl)
        · first
            | refine L_v (opv_fieldAddr0 rfl) rfl ?_
            | refine L_v (opv_fieldAddr rfl) rfl ?_
          refine L_gf_on h4 rfl rfl ?_
          refine L_v (opv_load rfl (Rd.look rfl)) rfl ?_
          refine L_gf_on h4 rfl rfl ?_
          first
            | refine L_v (opv_lenL rfl) rfl ?_
            | refine L_v (opv_lenS rfl) rfl ?_
          refine L_gf_on h4 rfl rfl ?_
          refine L_v ((opv_remP rfl rfl (by omega)).as (v' := .int .i64 ((p.data.size % 8 : Nat) : Int)) rfl) rfl ?_
          refine L_gf_on h4 rfl rfl ?_
          first
            | refine L_v (opv_neq rfl rfl) rfl ?_
            | refine L_v (opv_neqS rfl rfl) rfl ?_
            | refine L_v (opv_neqNil rfl rfl) rfl ?_
            | refine L_v (opv_neqB rfl rfl) rfl ?_
          refine L_gt_on h3 rfl rfl ?_
          refine L_v (opv_pick_f rfl h4 rfl) rfl ?_
          refine L_v (opv_pick_t rfl h3 rfl) rfl ?_
          refine L_v (opv_assign rfl) rfl ?_
          refine L_nil ?_
          refine K_then ?_
          refine J_cond rfl (fun h5 => ?_) (fun h5 => ?_)
          · refine J_seq ?_
            refine J_region ?_
            refine L_v (opv_assign rfl) rfl ?_
            refine L_nil ?_
            refine K_then ?_
            refine J_ret ?_
            refine K_block_ret ?_
            refine K_then_ret ?_
            exact K_ret1 rfl rfl () trivial (congrArg (Value.int .i64) (by unfold sndC; first | rw [if_pos (by omega)] | rw [if_neg (by omega), if_pos ⟨by assumption, by omega⟩] | rw [if_neg (by omega), if_neg (by rintro ⟨g1, g2⟩; first | contradiction | omega), if_pos (by omega)] | rw [if_neg (by omega), if_neg (by rintro ⟨g1, g2⟩; first | contradiction | omega), if_neg (by omega)])) Ent.take
          · refine J_seq ?_
            refine J_region ?_
            refine L_v (opv_move rfl) rfl ?_
            first
              | refine L_v (opv_fieldAddr0 rfl) rfl ?_
              | refine L_v (opv_fieldAddr rfl) rfl ?_
            refine L_v (opv_load rfl (Rd.look rfl)) rfl ?_
            first
              | refine L_v (opv_lenL rfl) rfl ?_
              | refine L_v (opv_lenS rfl) rfl ?_
            first
              | refine L_v (opv_add64 rfl rfl (by omega)) rfl ?_
              | refine L_v (opv_addS rfl rfl (by omega)) rfl ?_
              | refine L_v (opv_add rfl rfl) rfl ?_
            refine L_v (opv_gtr rfl rfl) rfl ?_
            refine L_v (opv_assign rfl) rfl ?_
            refine L_nil ?_
            refine K_then ?_
            refine J_cond rfl (fun h6 => ?_) (fun h6 => ?_)
            · refine J_seq ?_
              refine J_region ?_
              refine L_v (opv_assign rfl) rfl ?_
              refine L_nil ?_
              refine K_then ?_
              refine J_ret ?_
              refine K_block_ret ?_
              refine K_then_ret ?_
              exact K_ret1 rfl rfl () trivial (congrArg (Value.int .i64) (by unfold sndC; first | rw [if_pos (by omega)] | rw [if_neg (by omega), if_pos ⟨by assumption, by omega⟩] | rw [if_neg (by omega), if_neg (by rintro ⟨g1, g2⟩; first | contradiction | omega), if_pos (by omega)] | rw [if_neg (by omega), if_neg (by rintro ⟨g1, g2⟩; first | contradiction | omega), if_neg (by omega)])) Ent.take
            · refine J_skip ?_
              refine K_block ?_
              refine K_then ?_
              refine J_seq ?_
              refine J_region ?_
              refine L_v (opv_assign rfl) rfl ?_
              refine L_nil ?_
              refine K_then ?_
              refine J_ret ?_
              exact K_ret1 rfl rfl () trivial (congrArg (Value.int .i64) (by unfold sndC; first | rw [if_pos (by omega)] | rw [if_neg (by omega), if_pos ⟨by assumption, by omega⟩] | rw [if_neg (by omega), if_neg (by rintro ⟨g1, g2⟩; first | contradiction | omega), if_pos (by omega)] | rw [if_neg (by omega), if_neg (by rintro ⟨g1, g2⟩; first | contradiction | omega), if_neg (by omega)])) Ent.take
        · refine L_gf_off h4 rfl rfl ?_ (fun _ h => by cases h; rfl)
          refine L_gf_off h4 rfl rfl ?_ (fun _ h => by cases h; rfl)
          refine L_gf_off h4 rfl rfl ?_ (fun _ h => by cases h; rfl)
          refine L_gf_off h4 rfl rfl ?_ (fun _ h => by cases h; rfl)
          refine L_gt_on h3 rfl rfl ?_
          refine L_v (opv_pick_t rfl h4 rfl) rfl ?_
          refine L_v (opv_pick_t rfl h3 rfl) rfl ?_
          refine L_v (opv_assign rfl) rfl ?_
          refine L_nil ?_
          refine K_then ?_
          refine J_cond_true rfl ?_
          refine J_seq ?_
          refine J_region ?_
          refine L_v (opv_assign rfl) rfl ?_
          refine L_nil ?_
          refine K_then ?_
          refine J_ret ?_
          refine K_block_ret ?_
          refine K_then_ret ?_
          exact K_ret1 rfl rfl () trivial (congrArg (Value.int .i64) (by unfold sndC; first | rw [if_pos (by omega)] | rw [if_neg (by omega), if_pos ⟨by assumption, by omega⟩] | rw [if_neg (by omega), if_neg (by rintro ⟨g1, g2⟩; first | contradiction | omega), if_pos (by omega)] | rw [if_neg (by omega), if_neg (by rintro ⟨g1, g2⟩; first | contradiction | omega), if_neg (by omega)])) Ent.take
      · refine L_gt_off h3 rfl rfl ?_ (fun _ h => by cases h; rfl)
        refine L_gt_off h3 rfl rfl ?_ (fun _ h => by cases h; rfl)
        refine L_gskipU rfl rfl (by simp [h3]) rfl ?_
        refine L_gU rfl rfl rfl ?_
        refine L_gU rfl rfl rfl ?_
        refine L_gU rfl rfl rfl ?_
        refine L_gU rfl rfl rfl ?_
        refine L_gU rfl rfl rfl ?_
        refine L_gt_off h3 rfl rfl ?_ (fun _ h => by cases h; rfl)
        refine L_v (opv_pick_f rfl h3 rfl) rfl ?_
        refine L_v (opv_assign rfl) rfl ?_
        refine L_nil ?_
        refine K_then ?_
        refine J_cond_false rfl ?_
        refine J_seq ?_
        refine J_region ?_
        refine L_v (opv_move rfl) rfl ?_
        first
          | refine L_v (opv_fieldAddr0 rfl) rfl ?_
          | refine L_v (opv_fieldAddr rfl) rfl ?_
        refine L_v (opv_load rfl (Rd.look rfl)) rfl ?_
        first
          | refine L_v (opv_lenL rfl) rfl ?_
          | refine L_v (opv_lenS rfl) rfl ?_
        first
          | refine L_v (opv_add64 rfl rfl (by omega)) rfl ?_
          | refine L_v (opv_addS rfl rfl (by omega)) rfl ?_
          | refine L_v (opv_add rfl rfl) rfl ?_
        refine L_v (opv_gtr rfl rfl) rfl ?_
        refine L_v (opv_assign rfl) rfl ?_
        refine L_nil ?_
        refine K_then ?_
        refine J_cond rfl (fun h7 => ?_) (fun h7 => ?_)
        · refine J_seq ?_
          refine J_region ?_
          refine L_v (opv_assign rfl) rfl ?_
          refine L_nil ?_
          refine K_then ?_
          refine J_ret ?_
          refine K_block_ret ?_
          refine K_then_ret ?_
          exact K_ret1 rfl rfl () trivial (congrArg (Value.int .i64) (by unfold sndC; first | rw [if_pos (by omega)] | rw [if_neg (by omega), if_pos ⟨by assumption, by omega⟩] | rw [if_neg (by omega), if_neg (by rintro ⟨g1, g2⟩; first | contradiction | omega), if_pos (by omega)] | rw [if_neg (by omega), if_neg (by rintro ⟨g1, g2⟩; first | contradiction | omega), if_neg (by omega)])) Ent.take
        · refine J_skip ?_
          refine K_block ?_
          refine K_then ?_
          refine J_seq ?_
          refine J_region ?_
          refine L_v (opv_assign rfl) rfl ?_
          refine L_nil ?_
          refine K_then ?_
          refine J_ret ?_
          exact K_ret1 rfl rfl () trivial (congrArg (Value.int .i64) (by unfold sndC; first | rw [if_pos (by omega)] | rw [if_neg (by omega), if_pos ⟨by assumption, by omega⟩] | rw [if_neg (by omega), if_neg (by rintro ⟨g1, g2⟩; first | contradiction | omega), if_pos (by omega)] | rw [if_neg (by omega), if_neg (by rintro ⟨g1, g2⟩; first | contradiction | omega), if_neg (by omega)])) Ent.take
  · refine L_gf_off h1 rfl rfl ?_ (fun _ h => by cases h; rfl)
    refine L_gf_off h1 rfl rfl ?_ (fun _ h => by cases h; rfl)
    refine L_gf_off h1 rfl rfl ?_ (fun _ h => by cases h; rfl)
    refine L_gf_off h1 rfl rfl ?_ (fun _ h => by cases h; rfl)
    refine L_v (opv_pick_t rfl h1 rfl) rfl ?_
    refine L_v (opv_assign rfl) rfl ?_
    refine L_nil ?_
    refine K_then ?_
    refine J_cond_true rfl ?_
    refine J_seq ?_
    refine J_region ?_
    refine L_v (opv_assign rfl) rfl ?_
    refine L_nil ?_
    refine K_then ?_
    refine J_ret ?_
    refine K_block_ret ?_
    refine K_then_ret ?_
    exact K_ret1 rfl rfl () trivial (congrArg (Value.int .i64) (by unfold sndC; first | rw [if_pos (by omega)] | rw [if_neg (by omega), if_pos ⟨by assumption, by omega⟩] | rw [if_neg (by omega), if_neg (by rintro ⟨g1, g2⟩; first | contradiction | omega), if_pos (by omega)] | rw [if_neg (by omega), if_neg (by rintro ⟨g1, g2⟩; first | contradiction | omega), if_neg (by omega)])) Ent.take

theorem is_spec (x k : Ky) (b3 : Nat) : FSpec Try.prog 70 #[.agg [.int .u8 x.s0, .int .u8 x.s1, .int .u8 x.s2, .int .u8 x.s3, .int .u8 x.d0, .int .u8 x.d1, .int .u8 x.d2, .int .u8 x.d3, .int .i64 x.proto, .int .i64 x.id].toArray, .pointer (some (ad b3 0))] (cel b3 (encKy k) 70) (fun _ : Unit => True) (fun _ => .bool (decide (x = k))) (fun _ => cel b3 (encKy k) 70) := by
  refine FSpec.enter' Try.func70 rfl Try.ntmps70 rfl fun σ F => ?_
  refine J_seq ?_
  refine J_region ?_
  refine L_x rfl (opx_box (l := [.int .u8 x.s0, .int .u8 x.s1, .int .u8 x.s2, .int .u8 x.s3, .int .u8 x.d0, .int .u8 x.d1, .int .u8 x.d2, .int .u8 x.d3, .int .i64 x.proto, .int .i64 x.id]) rfl rfl) (fun b2 _ => ?_)
  refine L_v (opv_assign rfl) rfl ?_
  refine L_nil ?_
  refine K_then ?_
  refine J_seq ?_
  refine J_region ?_
  refine L_v (opv_loadS rfl) rfl ?_
  refine L_v (opv_loadN (vs := encKy k) rfl rfl (fun j u hj => Rd.look (l := encKy k) (by rw [Nat.zero_add]; exact hj))) rfl ?_
  refine L_v ((opv_eqlF (l := encKy x) (r := encKy k) rfl rfl (shKy x) (shKy k)).as (v' := .bool (decide (x = k))) (congrArg Value.bool (decide_eq_decide.2 encKy_inj))) rfl ?_
  refine L_v (opv_assign rfl) rfl ?_
  refine L_nil ?_
  refine K_then ?_
  refine J_ret ?_
  exact K_ret1 rfl rfl () trivial (rfl) Ent.take

theorem IndexKey_spec (A : Option Addr) (b3 c : Nat) (L : List Ky) (k : Ky) (hq : L.length ≤ 1000000000) : FSpec Try.prog 75 #[.slice A L.length c, .func (.func 70) #[] #[.pointer (some (ad b3 0))]] ((sep (Own 70 10 (.slice A L.length c) L.length (flatK L)) (cel b3 (encKy k) 70))) (fun _ : Unit => True) (fun _ => .int .i64 (if fix L k < L.length then ((fix L k : Nat) : Int) else -1)) (fun _ => (sep (Own 70 10 (.slice A L.length c) L.length (flatK L)) (cel b3 (encKy k) 70))) := by
  refine FSpec.enter' Try.func75 rfl Try.ntmps75 rfl fun σ F => ?_
  refine J_eq _ (sep_assoc _ _ _) ?_
  refine J_know (fun w hs => own_nonnil hs) fun hA => ?_
  refine J_seq ?_
  refine J_region ?_
  refine L_v (opv_assign rfl) rfl ?_
  refine L_nil ?_
  refine K_then ?_
  refine J_seq ?_
  refine J_seq ?_
  refine J_region ?_
  refine L_v (opv_move rfl) rfl ?_
  first
    | refine L_v (opv_lenL rfl) rfl ?_
    | refine L_v (opv_lenS rfl) rfl ?_
  refine L_v (opv_move rfl) rfl ?_
  refine L_nil ?_
  refine K_then ?_
  refine J_block ?_
  refine J_loop (X := Nat) (fun i => [(0, .slice A L.length c), (1, .func (.func 70) #[] #[.pointer (some (ad b3 0))]), (7, .int .i64 L.length), (8, .int .i64 i)]) (fun i => (sep (Own 70 10 (.slice A L.length c) L.length (flatK L)) (sep (cel b3 (encKy k) 70) (F)))) (fun i => i ≤ fix L k) (fun i => L.length - i) (0) (Nat.zero_le _) ⟨rfl, rfl, rfl, rfl, trivial⟩ (Ent.refl _) (fun i hi => ?_)
  refine J_seq ?_
  refine J_region ?_
  refine L_v (opv_lss rfl rfl) rfl ?_
  refine L_nil ?_
  refine K_then ?_
  refine J_seq ?_
  refine J_cond rfl (fun h1 => ?_) (fun h1 => ?_)
  · have hil : i < L.length := by omega
    obtain ⟨x, hx⟩ : ∃ x, L[i]? = some x := ⟨_, List.getElem?_eq_getElem hil⟩
    obtain ⟨b, o, rfl⟩ : ∃ b o, A = some (ad b o) := by rcases hA with ⟨_, _, h, _⟩ | h; omega; exact h
    refine J_skip ?_
    refine K_then ?_
    refine J_seq ?_
    refine J_block ?_
    refine J_seq ?_
    refine J_region ?_
    refine L_v (opv_move rfl) rfl ?_
    refine L_v (opv_assign rfl) rfl ?_
    refine L_nil ?_
    refine K_then ?_
    refine J_seq ?_
    refine J_region ?_
    refine L_v (opv_move rfl) rfl ?_
    refine L_v (opv_move rfl) rfl ?_
    refine L_v (opv_move rfl) rfl ?_
    first
      | refine L_v (opv_indexAddr rfl rfl (by omega)) rfl ?_
      | refine L_v (opv_indexAddrA rfl rfl (by omega)) rfl ?_
    refine L_v (opv_loadN (vs := [.int .u8 x.s0, .int .u8 x.s1, .int .u8 x.s2, .int .u8 x.s3, .int .u8 x.d0, .int .u8 x.d1, .int .u8 x.d2, .int .u8 x.d3, .int .i64 x.proto, .int .i64 x.id]) rfl rfl (fun j u hj => Rd.of_take (S := Own 70 10 (.slice (some (ad b o)) L.length c) L.length (flatK L)) ((RdS.own (m := 10) (e := 70) (c := c) encKy_len (.inr ⟨b, o, rfl⟩)).rd b o rfl i x j u hx hj))) rfl ?_
    refine L_x rfl (opx_call (first := []) (captured := [.pointer (some (ad b3 0))]) (is_spec x k b3) rfl rfl rfl rfl) (fun _ _ => ?_)
    refine L_nil ?_
    refine K_then ?_
    refine J_cond_bool rfl (fun h2 => ?_) (fun h2 => ?_)
    · refine J_seq ?_
      refine J_region ?_
      refine L_v (opv_move rfl) rfl ?_
      refine L_v (opv_assign rfl) rfl ?_
      refine L_nil ?_
      refine K_then ?_
      refine J_ret ?_
      refine K_block_ret ?_
      refine K_then_ret ?_
      refine K_then_ret ?_
      refine K_block_ret ?_
      refine K_then_ret ?_
      have e := fix_here hi hx (of_decide_eq_true h2)
      exact K_ret1 rfl rfl () trivial (congrArg (Value.int .i64) (by rw [if_pos (by omega), e])) Ent.take
    · refine J_skip ?_
      refine K_block ?_
      refine K_then ?_
      refine J_region ?_
      first
        | refine L_v (opv_add64 rfl rfl (by omega)) rfl ?_
        | refine L_v (opv_addS rfl rfl (by omega)) rfl ?_
        | refine L_v (opv_add rfl rfl) rfl ?_
      refine L_v (opv_move rfl) rfl ?_
      refine L_nil ?_
      exact K_loop (i + 1) (fix_next hi hx (of_decide_eq_false h2)) (by omega) ⟨rfl, rfl, rfl, rfl, trivial⟩ Ent.takes
  · refine J_exit ?_
    refine K_then_exit ?_
    refine K_then_exit ?_
    refine K_block_here ?_
    refine K_then ?_
    refine J_seq ?_
    refine J_region ?_
    refine L_v (opv_assign rfl) rfl ?_
    refine L_nil ?_
    refine K_then ?_
    refine J_ret ?_
    have hle := fix_le L k
    exact K_ret1 rfl rfl () trivial (congrArg (Value.int .i64) (by rw [if_neg (by omega)])) Ent.take

end Go.Proofs.Ytjpbpfihacfndaa
