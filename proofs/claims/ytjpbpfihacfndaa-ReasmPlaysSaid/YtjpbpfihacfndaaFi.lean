/- The law FragJoins of the package pitotlaw08 holds for every input: which packet parts are of, or why of none. No condition. -/
import Derived.Test.YtjpbpfihacfndaaFh
import Derived.Test.YtjpbpfihacfndaaH
namespace Go.Proofs.Ytjpbpfihacfndaa
open Go.SLA
set_option maxRecDepth 100000
set_option linter.unusedVariables false
set_option linter.unusedSimpArgs false
attribute [local irreducible] J L K QL Rg FSpec OpV OpX Rd Back

theorem Join_any (R0 : HProp) (A : Option Addr) (c : Nat) (L : List Pk) (hR : RdS R0 encPk 14 A L) (hn : L.length ≤ 1000) (hz : ∀ x ∈ L, x.data.size ≤ 20000) : FSpec Try.prog 20 #[.slice A L.length c] R0 (fun _ : Unit => True) (fun _ => .tuple #[.agg (encPk (joinC L).1).toArray, .int .i64 (joinC L).2]) (fun _ => R0) := by
  cases h0 : L[0]? with
  | none =>
    have : L = [] := by
      cases L with
      | nil => rfl
      | cons x l => simp at h0
    exact Join_emp R0 A c L hR hn hz this
  | some x0 =>
    by_cases h : odd L x0 < L.length
    · exact Join_odd R0 A c L hR hn hz x0 h0 h
    · exact Join_rest R0 A c L hR hn hz x0 h0 h
theorem RJoin_any (R1 : HProp) (A : Option Addr) (c : Nat) (L : List Pk) (hR : RdS R1 encR 8 A L) (hn : L.length ≤ 50) (hz : ∀ x ∈ L, x.data.size ≤ 2000) (ok : ∀ x ∈ L, okA x) : FSpec Try.prog 21 #[.slice A L.length c] R1 (fun _ : Unit => True) (fun _ => .tuple #[.agg (rjV L).toArray, .int .i64 (joinC L).2]) (fun _ => R1) := by
  cases h0 : L[0]? with
  | none =>
    have : L = [] := by
      cases L with
      | nil => rfl
      | cons x l => simp at h0
    exact RJoin_emp R1 A c L hR hn hz this
  | some x0 =>
    by_cases h : odd L x0 < L.length
    · exact RJoin_odd R1 A c L hR hn hz ok x0 h0 h
    · exact RJoin_rest R1 A c L hR hn hz ok x0 h0 h
theorem RJoin_own (A : Option Addr) (c : Nat) (L : List Pk) (hn : L.length ≤ 50) (hz : ∀ x ∈ L, x.data.size ≤ 2000) (ok : ∀ x ∈ L, okA x) : FSpec Try.prog 21 #[.slice A L.length c] (Own 36 8 (.slice A L.length c) L.length (L.flatMap encR)) (fun _ : Unit => True) (fun _ => .tuple #[.agg (rjV L).toArray, .int .i64 (joinC L).2]) (fun _ => Own 36 8 (.slice A L.length c) L.length (L.flatMap encR)) := by
  unfold FSpec
  intro σ w F hs
  have hA : L = [] ∨ ∃ b o, A = some (ad b o) := by
    rcases own_nonnil hs with ⟨_, _, h, _⟩ | h
    · exact .inl (List.eq_nil_of_length_eq_zero h)
    · exact .inr h
  have h2 := RJoin_any (Own 36 8 (.slice A L.length c) L.length (L.flatMap encR)) A c L (RdS.own (m := 8) (e := 36) (c := c) encR_len hA) hn hz ok
  unfold FSpec at h2
  exact h2 σ w F hs
theorem join_z {L : List Pk} (h : (joinC L).2 ≠ 0) : (joinC L).1 = pkz := by
  cases L with
  | nil => rfl
  | cons x0 l0 =>
    unfold joinC at h ⊢
    dsimp only at h ⊢
    split
    · rfl
    · rename_i h1
      rw [if_neg h1] at h
      split
      · rfl
      · rename_i h2
        rw [if_neg h2] at h
        split
        · rfl
        · rename_i h3
          rw [if_neg h3] at h
          split
          · rfl
          · rename_i h4
            rw [if_neg h4] at h
            exact absurd rfl h
theorem rj_z {L : List Pk} (h : (joinC L).2 ≠ 0) : rjV L = [.int .i64 0, .bool false, .int .i64 0, .int .i64 0, .int .i64 0, .string ⟨#[]⟩, .string ⟨#[]⟩, .string ⟨#[]⟩] := by unfold rjV; rw [if_neg h]
theorem rj_0 {L : List Pk} (h : (joinC L).2 = 0) : rjV L = [.int .i64 (joinC L).1.id, .bool (joinC L).1.more, .int .i64 (joinC L).1.off, .int .i64 (joinC L).1.ttl, .int .i64 (joinC L).1.proto, .string (bytesL [(joinC L).1.s0, (joinC L).1.s1, (joinC L).1.s2, (joinC L).1.s3]), .string (bytesL [(joinC L).1.d0, (joinC L).1.d1, (joinC L).1.d2, (joinC L).1.d3]), .string (joinC L).1.data] := by unfold rjV; rw [if_pos h]; rfl
theorem okA_join {L : List Pk} (ok : ∀ x ∈ L, okA x) (h : (joinC L).2 = 0) : okA (joinC L).1 := by
  cases L with
  | nil => cases h
  | cons x0 l0 =>
    have h0 := ok x0 (List.mem_cons_self ..)
    unfold joinC at h ⊢
    dsimp only at h ⊢
    split
    · rename_i h1; rw [if_pos h1] at h; cases h
    · rename_i h1
      rw [if_neg h1] at h
      split
      · rename_i h2; rw [if_pos h2] at h; exact absurd h h2
      · rename_i h2
        rw [if_neg h2] at h
        split
        · rename_i h3; rw [if_pos h3] at h; cases h
        · rename_i h3
          rw [if_neg h3] at h
          split
          · rename_i h4; rw [if_pos h4] at h; cases h
          · exact h0

theorem Plain05_z  : FSpec Try.prog 23 #[.agg [.int .i64 0, .bool false, .int .i64 0, .int .i64 0, .int .i64 0, .int .u8 0, .int .u8 0, .int .u8 0, .int .u8 0, .int .u8 0, .int .u8 0, .int .u8 0, .int .u8 0, .string ⟨#[]⟩].toArray, .bool true] (emp) (fun _ : Unit => True) (fun _ => .agg [.int .i64 0, .bool false, .int .i64 0, .int .i64 0, .int .i64 0, .string ⟨#[]⟩, .string ⟨#[]⟩, .string ⟨#[]⟩].toArray) (fun _ => emp) := by
  refine FSpec.enter' Try.func23 rfl Try.ntmps23 rfl fun σ F => ?_
  refine J_emp ?_
  refine J_seq ?_
  refine J_region ?_
  refine L_x rfl (opx_box (l := [.int .i64 0, .bool false, .int .i64 0, .int .i64 0, .int .i64 0, .int .u8 0, .int .u8 0, .int .u8 0, .int .u8 0, .int .u8 0, .int .u8 0, .int .u8 0, .int .u8 0, .string ⟨#[]⟩]) rfl rfl) (fun b2 _ => ?_)
  refine L_x rfl (opx_alloc rfl) (fun b4 _ => ?_)
  refine L_nil ?_
  refine K_then ?_
  refine J_seq ?_
  refine J_steps (cel b2 [.int .i64 0, .bool false, .int .i64 0, .int .i64 0, .int .i64 0, .int .u8 0, .int .u8 0, .int .u8 0, .int .u8 0, .int .u8 0, .int .u8 0, .int .u8 0, .int .u8 0, .string ⟨#[]⟩] 32) (cel b2 [.int .i64 0, .bool false, .int .i64 0, .int .i64 0, .int .i64 0, .int .u8 0, .int .u8 0, .int .u8 0, .int .u8 0, .int .u8 0, .int .u8 0, .int .u8 0, .int .u8 0, .string ⟨#[]⟩] 32) [] Try.mixed ?_
  first
    | refine R_pure 0 rfl (by kernel_rfl) (by kernel_rfl) (by kernel_rfl) (by kernel_rfl) (.inr ⟨_, Take.eq (A := cel b2 [.int .i64 0, .bool false, .int .i64 0, .int .i64 0, .int .i64 0, .int .u8 0, .int .u8 0, .int .u8 0, .int .u8 0, .int .u8 0, .int .u8 0, .int .u8 0, .int .u8 0, .string ⟨#[]⟩] 32)⟩) (opv_fieldAddr0 rfl) rfl ?_
    | refine R_pure 0 rfl (by kernel_rfl) (by kernel_rfl) (by kernel_rfl) (by kernel_rfl) (.inr ⟨_, Take.eq (A := cel b2 [.int .i64 0, .bool false, .int .i64 0, .int .i64 0, .int .i64 0, .int .u8 0, .int .u8 0, .int .u8 0, .int .u8 0, .int .u8 0, .int .u8 0, .int .u8 0, .int .u8 0, .string ⟨#[]⟩] 32)⟩) (opv_fieldAddr rfl) rfl ?_
  refine R_take 1 rfl (by kernel_rfl) (by kernel_rfl) (by kernel_rfl) (by kernel_rfl) (by kernel_rfl) (opv_load rfl (Rd.look rfl)) rfl ?_
  first
    | refine R_pure 2 rfl (by kernel_rfl) (by kernel_rfl) (by kernel_rfl) (by kernel_rfl) (.inr ⟨_, Take.eq (A := cel b2 [.int .i64 0, .bool false, .int .i64 0, .int .i64 0, .int .i64 0, .int .u8 0, .int .u8 0, .int .u8 0, .int .u8 0, .int .u8 0, .int .u8 0, .int .u8 0, .int .u8 0, .string ⟨#[]⟩] 32)⟩) (opv_fieldAddr0 rfl) rfl ?_
    | refine R_pure 2 rfl (by kernel_rfl) (by kernel_rfl) (by kernel_rfl) (by kernel_rfl) (.inr ⟨_, Take.eq (A := cel b2 [.int .i64 0, .bool false, .int .i64 0, .int .i64 0, .int .i64 0, .int .u8 0, .int .u8 0, .int .u8 0, .int .u8 0, .int .u8 0, .int .u8 0, .int .u8 0, .int .u8 0, .string ⟨#[]⟩] 32)⟩) (opv_fieldAddr rfl) rfl ?_
  refine R_take 3 rfl (by kernel_rfl) (by kernel_rfl) (by kernel_rfl) (by kernel_rfl) (by kernel_rfl) (opv_load rfl (Rd.look rfl)) rfl ?_
  first
    | refine R_pure 4 rfl (by kernel_rfl) (by kernel_rfl) (by kernel_rfl) (by kernel_rfl) (.inr ⟨_, Take.eq (A := cel b2 [.int .i64 0, .bool false, .int .i64 0, .int .i64 0, .int .i64 0, .int .u8 0, .int .u8 0, .int .u8 0, .int .u8 0, .int .u8 0, .int .u8 0, .int .u8 0, .int .u8 0, .string ⟨#[]⟩] 32)⟩) (opv_fieldAddr0 rfl) rfl ?_
    | refine R_pure 4 rfl (by kernel_rfl) (by kernel_rfl) (by kernel_rfl) (by kernel_rfl) (.inr ⟨_, Take.eq (A := cel b2 [.int .i64 0, .bool false, .int .i64 0, .int .i64 0, .int .i64 0, .int .u8 0, .int .u8 0, .int .u8 0, .int .u8 0, .int .u8 0, .int .u8 0, .int .u8 0, .int .u8 0, .string ⟨#[]⟩] 32)⟩) (opv_fieldAddr rfl) rfl ?_
  refine R_take 5 rfl (by kernel_rfl) (by kernel_rfl) (by kernel_rfl) (by kernel_rfl) (by kernel_rfl) (opv_load rfl (Rd.look rfl)) rfl ?_
  first
    | refine R_pure 6 rfl (by kernel_rfl) (by kernel_rfl) (by kernel_rfl) (by kernel_rfl) (.inr ⟨_, Take.eq (A := cel b2 [.int .i64 0, .bool false, .int .i64 0, .int .i64 0, .int .i64 0, .int .u8 0, .int .u8 0, .int .u8 0, .int .u8 0, .int .u8 0, .int .u8 0, .int .u8 0, .int .u8 0, .string ⟨#[]⟩] 32)⟩) (opv_fieldAddr0 rfl) rfl ?_
    | refine R_pure 6 rfl (by kernel_rfl) (by kernel_rfl) (by kernel_rfl) (by kernel_rfl) (.inr ⟨_, Take.eq (A := cel b2 [.int .i64 0, .bool false, .int .i64 0, .int .i64 0, .int .i64 0, .int .u8 0, .int .u8 0, .int .u8 0, .int .u8 0, .int .u8 0, .int .u8 0, .int .u8 0, .int .u8 0, .string ⟨#[]⟩] 32)⟩) (opv_fieldAddr rfl) rfl ?_
  refine R_take 7 rfl (by kernel_rfl) (by kernel_rfl) (by kernel_rfl) (by kernel_rfl) (by kernel_rfl) (opv_load rfl (Rd.look rfl)) rfl ?_
  first
    | refine R_pure 8 rfl (by kernel_rfl) (by kernel_rfl) (by kernel_rfl) (by kernel_rfl) (.inr ⟨_, Take.eq (A := cel b2 [.int .i64 0, .bool false, .int .i64 0, .int .i64 0, .int .i64 0, .int .u8 0, .int .u8 0, .int .u8 0, .int .u8 0, .int .u8 0, .int .u8 0, .int .u8 0, .int .u8 0, .string ⟨#[]⟩] 32)⟩) (opv_fieldAddr0 rfl) rfl ?_
    | refine R_pure 8 rfl (by kernel_rfl) (by kernel_rfl) (by kernel_rfl) (by kernel_rfl) (.inr ⟨_, Take.eq (A := cel b2 [.int .i64 0, .bool false, .int .i64 0, .int .i64 0, .int .i64 0, .int .u8 0, .int .u8 0, .int .u8 0, .int .u8 0, .int .u8 0, .int .u8 0, .int .u8 0, .int .u8 0, .string ⟨#[]⟩] 32)⟩) (opv_fieldAddr rfl) rfl ?_
  refine R_take 9 rfl (by kernel_rfl) (by kernel_rfl) (by kernel_rfl) (by kernel_rfl) (by kernel_rfl) (opv_load rfl (Rd.look rfl)) rfl ?_
  first
    | refine R_pure 10 rfl (by kernel_rfl) (by kernel_rfl) (by kernel_rfl) (by kernel_rfl) (.inr ⟨_, Take.eq (A := cel b2 [.int .i64 0, .bool false, .int .i64 0, .int .i64 0, .int .i64 0, .int .u8 0, .int .u8 0, .int .u8 0, .int .u8 0, .int .u8 0, .int .u8 0, .int .u8 0, .int .u8 0, .string ⟨#[]⟩] 32)⟩) (opv_fieldAddr0 rfl) rfl ?_
    | refine R_pure 10 rfl (by kernel_rfl) (by kernel_rfl) (by kernel_rfl) (by kernel_rfl) (.inr ⟨_, Take.eq (A := cel b2 [.int .i64 0, .bool false, .int .i64 0, .int .i64 0, .int .i64 0, .int .u8 0, .int .u8 0, .int .u8 0, .int .u8 0, .int .u8 0, .int .u8 0, .int .u8 0, .int .u8 0, .string ⟨#[]⟩] 32)⟩) (opv_fieldAddr rfl) rfl ?_
  refine R_take 11 rfl (by kernel_rfl) (by kernel_rfl) (by kernel_rfl) (by kernel_rfl) (by kernel_rfl) (opv_loadS rfl) rfl ?_
  first
    | refine R_pure 13 rfl (by kernel_rfl) (by kernel_rfl) (by kernel_rfl) (by kernel_rfl) (.inr ⟨_, Take.eq (A := cel b2 [.int .i64 0, .bool false, .int .i64 0, .int .i64 0, .int .i64 0, .int .u8 0, .int .u8 0, .int .u8 0, .int .u8 0, .int .u8 0, .int .u8 0, .int .u8 0, .int .u8 0, .string ⟨#[]⟩] 32)⟩) (opv_fieldAddr0 rfl) rfl ?_
    | refine R_pure 13 rfl (by kernel_rfl) (by kernel_rfl) (by kernel_rfl) (by kernel_rfl) (.inr ⟨_, Take.eq (A := cel b2 [.int .i64 0, .bool false, .int .i64 0, .int .i64 0, .int .i64 0, .int .u8 0, .int .u8 0, .int .u8 0, .int .u8 0, .int .u8 0, .int .u8 0, .int .u8 0, .int .u8 0, .string ⟨#[]⟩] 32)⟩) (opv_fieldAddr rfl) rfl ?_
  refine R_take 14 rfl (by kernel_rfl) (by kernel_rfl) (by kernel_rfl) (by kernel_rfl) (by kernel_rfl) (opv_loadS rfl) rfl ?_
  first
    | refine R_pure 16 rfl (by kernel_rfl) (by kernel_rfl) (by kernel_rfl) (by kernel_rfl) (.inr ⟨_, Take.eq (A := cel b2 [.int .i64 0, .bool false, .int .i64 0, .int .i64 0, .int .i64 0, .int .u8 0, .int .u8 0, .int .u8 0, .int .u8 0, .int .u8 0, .int .u8 0, .int .u8 0, .int .u8 0, .string ⟨#[]⟩] 32)⟩) (opv_fieldAddr0 rfl) rfl ?_
    | refine R_pure 16 rfl (by kernel_rfl) (by kernel_rfl) (by kernel_rfl) (by kernel_rfl) (.inr ⟨_, Take.eq (A := cel b2 [.int .i64 0, .bool false, .int .i64 0, .int .i64 0, .int .i64 0, .int .u8 0, .int .u8 0, .int .u8 0, .int .u8 0, .int .u8 0, .int .u8 0, .int .u8 0, .int .u8 0, .string ⟨#[]⟩] 32)⟩) (opv_fieldAddr rfl) rfl ?_
  refine R_take 17 rfl (by kernel_rfl) (by kernel_rfl) (by kernel_rfl) (by kernel_rfl) (by kernel_rfl) (opv_load rfl (Rd.look rfl)) rfl ?_
  refine R_all [12, 19] (by kernel_rfl) rfl fun i hi => ?_
  simp only [List.mem_cons, List.not_mem_nil, or_false] at hi
  rcases hi with rfl | rfl
  · refine ⟨_, _, _, _, _, rfl, rfl, (opx_call0 (ip05_spec 0 0 0 0 (by decide)) rfl rfl rfl), fun _ _ => ⟨⟨_, Take.eq (A := cel b2 [.int .i64 0, .bool false, .int .i64 0, .int .i64 0, .int .i64 0, .int .u8 0, .int .u8 0, .int .u8 0, .int .u8 0, .int .u8 0, .int .u8 0, .int .u8 0, .int .u8 0, .string ⟨#[]⟩] 32)⟩, .inr ⟨_, Take.eq (A := cel b2 [.int .i64 0, .bool false, .int .i64 0, .int .i64 0, .int .i64 0, .int .u8 0, .int .u8 0, .int .u8 0, .int .u8 0, .int .u8 0, .int .u8 0, .int .u8 0, .int .u8 0, .string ⟨#[]⟩] 32)⟩, ?_⟩⟩
    refine Rg_emp ?_
    refine R_all [15, 19] (by kernel_rfl) rfl fun i hi => ?_
    simp only [List.mem_cons, List.not_mem_nil, or_false] at hi
    rcases hi with rfl | rfl
    · refine ⟨_, _, _, _, _, rfl, rfl, (opx_call0 (ip05_spec 0 0 0 0 (by decide)) rfl rfl rfl), fun _ _ => ⟨⟨_, Take.eq (A := cel b2 [.int .i64 0, .bool false, .int .i64 0, .int .i64 0, .int .i64 0, .int .u8 0, .int .u8 0, .int .u8 0, .int .u8 0, .int .u8 0, .int .u8 0, .int .u8 0, .int .u8 0, .string ⟨#[]⟩] 32)⟩, .inr ⟨_, Take.eq (A := cel b2 [.int .i64 0, .bool false, .int .i64 0, .int .i64 0, .int .i64 0, .int .u8 0, .int .u8 0, .int .u8 0, .int .u8 0, .int .u8 0, .int .u8 0, .int .u8 0, .int .u8 0, .string ⟨#[]⟩] 32)⟩, ?_⟩⟩
      refine Rg_emp ?_
      refine R_pure 18 rfl (by kernel_rfl) (by kernel_rfl) (by kernel_rfl) (by kernel_rfl) (.inr ⟨_, Take.eq (A := cel b2 [.int .i64 0, .bool false, .int .i64 0, .int .i64 0, .int .i64 0, .int .u8 0, .int .u8 0, .int .u8 0, .int .u8 0, .int .u8 0, .int .u8 0, .int .u8 0, .int .u8 0, .string ⟨#[]⟩] 32)⟩) (opv_build rfl) rfl ?_
      refine R_only 19 rfl rfl (by kernel_rfl) (opx_alloc rfl) (fun _ _ => ⟨_, Take.eq (A := cel b2 [.int .i64 0, .bool false, .int .i64 0, .int .i64 0, .int .i64 0, .int .u8 0, .int .u8 0, .int .u8 0, .int .u8 0, .int .u8 0, .int .u8 0, .int .u8 0, .int .u8 0, .string ⟨#[]⟩] 32)⟩) (.inr fun _ _ => ⟨_, Take.eq (A := cel b2 [.int .i64 0, .bool false, .int .i64 0, .int .i64 0, .int .i64 0, .int .u8 0, .int .u8 0, .int .u8 0, .int .u8 0, .int .u8 0, .int .u8 0, .int .u8 0, .int .u8 0, .string ⟨#[]⟩] 32)⟩) (fun b5 _ => ?_)
      refine R_only 20 rfl rfl (by kernel_rfl) (opx_store rfl rfl rfl (by simp [Value.oneCell'])) (fun _ _ => ⟨_, Take.eq (A := cel b2 [.int .i64 0, .bool false, .int .i64 0, .int .i64 0, .int .i64 0, .int .u8 0, .int .u8 0, .int .u8 0, .int .u8 0, .int .u8 0, .int .u8 0, .int .u8 0, .int .u8 0, .string ⟨#[]⟩] 32)⟩) (.inr fun _ _ => ⟨_, Take.eq (A := cel b2 [.int .i64 0, .bool false, .int .i64 0, .int .i64 0, .int .i64 0, .int .u8 0, .int .u8 0, .int .u8 0, .int .u8 0, .int .u8 0, .int .u8 0, .int .u8 0, .int .u8 0, .string ⟨#[]⟩] 32)⟩) (fun _ _ => ?_)
      refine R_done (by kernel_rfl) ?_
      refine K_then ?_
      refine J_seq ?_
      refine J_seq ?_
      refine J_region ?_
      refine L_v (opv_move rfl) rfl ?_
      refine L_v (opv_move rfl) rfl ?_
      refine L_gon rfl rfl rfl ?_
      first
        | refine L_v (opv_fieldAddr0 rfl) rfl ?_
        | refine L_v (opv_fieldAddr rfl) rfl ?_
      refine L_gon rfl rfl rfl ?_
      refine L_v (opv_loadS rfl) rfl ?_
      refine L_gon rfl rfl rfl ?_
      refine L_v (opv_buildA (pl := []) rfl rfl) rfl ?_
      refine L_gon rfl rfl rfl ?_
      refine L_v ((opv_eqlF rfl rfl (by simp [encR, Shape, CK.sh]) (by simp [encR, Shape, CK.sh])).bool_t rfl) rfl ?_
      first
        | refine L_v (opv_pick_tt rfl rfl) rfl ?_
        | refine L_v (opv_pick_ff rfl rfl) rfl ?_
        | refine L_v (opv_pick rfl rfl rfl) rfl ?_
      refine L_v (opv_move rfl) rfl ?_
      refine L_gon rfl rfl rfl ?_
      first
        | refine L_v (opv_fieldAddr0 rfl) rfl ?_
        | refine L_v (opv_fieldAddr rfl) rfl ?_
      refine L_gon rfl rfl rfl ?_
      refine L_v (opv_loadS rfl) rfl ?_
      refine L_gon rfl rfl rfl ?_
      refine L_v (opv_buildA (pl := []) rfl rfl) rfl ?_
      refine L_gon rfl rfl rfl ?_
      refine L_v ((opv_eqlF rfl rfl (by simp [encR, Shape, CK.sh]) (by simp [encR, Shape, CK.sh])).bool_t rfl) rfl ?_
      first
        | refine L_v (opv_pick_tt rfl rfl) rfl ?_
        | refine L_v (opv_pick_ff rfl rfl) rfl ?_
        | refine L_v (opv_pick rfl rfl rfl) rfl ?_
      refine L_nil ?_
      refine K_then ?_
      refine J_cond_true rfl ?_
      refine J_seq ?_
      refine J_region ?_
      first
        | refine L_v (opv_fieldAddr0 rfl) rfl ?_
        | refine L_v (opv_fieldAddr rfl) rfl ?_
      refine L_x rfl (opx_store rfl rfl rfl (by simp [Value.oneCell'])) (fun _ _ => ?_)
      refine L_nil ?_
      refine K_then ?_
      refine J_region ?_
      first
        | refine L_v (opv_fieldAddr0 rfl) rfl ?_
        | refine L_v (opv_fieldAddr rfl) rfl ?_
      refine L_x rfl (opx_store rfl rfl rfl (by simp [Value.oneCell'])) (fun _ _ => ?_)
      refine L_nil ?_
      refine K_then ?_
      refine J_seq ?_
      refine J_region ?_
      refine L_v (opv_loadS rfl) rfl ?_
      refine L_x rfl (opx_store rfl rfl rfl (by simp [Value.oneCell'])) (fun _ _ => ?_)
      refine L_nil ?_
      refine K_then ?_
      refine J_ret ?_
      exact K_ret1c (Q := fun _ _ _ => True) rfl rfl rfl () trivial rfl Ent.take
    · refine ⟨_, _, _, _, _, rfl, rfl, (opx_alloc rfl), fun b5 _ => ⟨⟨_, Take.eq (A := cel b2 [.int .i64 0, .bool false, .int .i64 0, .int .i64 0, .int .i64 0, .int .u8 0, .int .u8 0, .int .u8 0, .int .u8 0, .int .u8 0, .int .u8 0, .int .u8 0, .int .u8 0, .string ⟨#[]⟩] 32)⟩, .inr ⟨_, Take.eq (A := cel b2 [.int .i64 0, .bool false, .int .i64 0, .int .i64 0, .int .i64 0, .int .u8 0, .int .u8 0, .int .u8 0, .int .u8 0, .int .u8 0, .int .u8 0, .int .u8 0, .int .u8 0, .string ⟨#[]⟩] 32)⟩, ?_⟩⟩
      refine R_only 15 rfl rfl (by kernel_rfl) (opx_call0 (ip05_spec 0 0 0 0 (by decide)) rfl rfl rfl) (fun _ _ => ⟨_, Take.eq (A := cel b2 [.int .i64 0, .bool false, .int .i64 0, .int .i64 0, .int .i64 0, .int .u8 0, .int .u8 0, .int .u8 0, .int .u8 0, .int .u8 0, .int .u8 0, .int .u8 0, .int .u8 0, .string ⟨#[]⟩] 32)⟩) (.inr fun _ _ => ⟨_, Take.eq (A := cel b2 [.int .i64 0, .bool false, .int .i64 0, .int .i64 0, .int .i64 0, .int .u8 0, .int .u8 0, .int .u8 0, .int .u8 0, .int .u8 0, .int .u8 0, .int .u8 0, .int .u8 0, .string ⟨#[]⟩] 32)⟩) (fun _ _ => ?_)
      refine Rg_emp ?_
      refine R_pure 18 rfl (by kernel_rfl) (by kernel_rfl) (by kernel_rfl) (by kernel_rfl) (.inr ⟨_, Take.eq (A := cel b2 [.int .i64 0, .bool false, .int .i64 0, .int .i64 0, .int .i64 0, .int .u8 0, .int .u8 0, .int .u8 0, .int .u8 0, .int .u8 0, .int .u8 0, .int .u8 0, .int .u8 0, .string ⟨#[]⟩] 32)⟩) (opv_build rfl) rfl ?_
      refine R_only 20 rfl rfl (by kernel_rfl) (opx_store rfl rfl rfl (by simp [Value.oneCell'])) (fun _ _ => ⟨_, Take.eq (A := cel b2 [.int .i64 0, .bool false, .int .i64 0, .int .i64 0, .int .i64 0, .int .u8 0, .int .u8 0, .int .u8 0, .int .u8 0, .int .u8 0, .int .u8 0, .int .u8 0, .int .u8 0, .string ⟨#[]⟩] 32)⟩) (.inr fun _ _ => ⟨_, Take.eq (A := cel b2 [.int .i64 0, .bool false, .int .i64 0, .int .i64 0, .int .i64 0, .int .u8 0, .int .u8 0, .int .u8 0, .int .u8 0, .int .u8 0, .int .u8 0, .int .u8 0, .int .u8 0, .string ⟨#[]⟩] 32)⟩) (fun _ _ => ?_)
      refine R_done (by kernel_rfl) ?_
      refine K_then ?_
      refine J_seq ?_
      refine J_seq ?_
      refine J_region ?_
      refine L_v (opv_move rfl) rfl ?_
      refine L_v (opv_move rfl) rfl ?_
      refine L_gon rfl rfl rfl ?_
      first
        | refine L_v (opv_fieldAddr0 rfl) rfl ?_
        | refine L_v (opv_fieldAddr rfl) rfl ?_
      refine L_gon rfl rfl rfl ?_
      refine L_v (opv_loadS rfl) rfl ?_
      refine L_gon rfl rfl rfl ?_
      refine L_v (opv_buildA (pl := []) rfl rfl) rfl ?_
      refine L_gon rfl rfl rfl ?_
      refine L_v ((opv_eqlF rfl rfl (by simp [encR, Shape, CK.sh]) (by simp [encR, Shape, CK.sh])).bool_t rfl) rfl ?_
      first
        | refine L_v (opv_pick_tt rfl rfl) rfl ?_
        | refine L_v (opv_pick_ff rfl rfl) rfl ?_
        | refine L_v (opv_pick rfl rfl rfl) rfl ?_
      refine L_v (opv_move rfl) rfl ?_
      refine L_gon rfl rfl rfl ?_
      first
        | refine L_v (opv_fieldAddr0 rfl) rfl ?_
        | refine L_v (opv_fieldAddr rfl) rfl ?_
      refine L_gon rfl rfl rfl ?_
      refine L_v (opv_loadS rfl) rfl ?_
      refine L_gon rfl rfl rfl ?_
      refine L_v (opv_buildA (pl := []) rfl rfl) rfl ?_
      refine L_gon rfl rfl rfl ?_
      refine L_v ((opv_eqlF rfl rfl (by simp [encR, Shape, CK.sh]) (by simp [encR, Shape, CK.sh])).bool_t rfl) rfl ?_
      first
        | refine L_v (opv_pick_tt rfl rfl) rfl ?_
        | refine L_v (opv_pick_ff rfl rfl) rfl ?_
        | refine L_v (opv_pick rfl rfl rfl) rfl ?_
      refine L_nil ?_
      refine K_then ?_
      refine J_cond_true rfl ?_
      refine J_seq ?_
      refine J_region ?_
      first
        | refine L_v (opv_fieldAddr0 rfl) rfl ?_
        | refine L_v (opv_fieldAddr rfl) rfl ?_
      refine L_x rfl (opx_store rfl rfl rfl (by simp [Value.oneCell'])) (fun _ _ => ?_)
      refine L_nil ?_
      refine K_then ?_
      refine J_region ?_
      first
        | refine L_v (opv_fieldAddr0 rfl) rfl ?_
        | refine L_v (opv_fieldAddr rfl) rfl ?_
      refine L_x rfl (opx_store rfl rfl rfl (by simp [Value.oneCell'])) (fun _ _ => ?_)
      refine L_nil ?_
      refine K_then ?_
      refine J_seq ?_
      refine J_region ?_
      refine L_v (opv_loadS rfl) rfl ?_
      refine L_x rfl (opx_store rfl rfl rfl (by simp [Value.oneCell'])) (fun _ _ => ?_)
      refine L_nil ?_
      refine K_then ?_
      refine J_ret ?_
      exact K_ret1c (Q := fun _ _ _ => True) rfl rfl rfl () trivial rfl Ent.take
  · refine ⟨_, _, _, _, _, rfl, rfl, (opx_alloc rfl), fun b5 _ => ⟨⟨_, Take.eq (A := cel b2 [.int .i64 0, .bool false, .int .i64 0, .int .i64 0, .int .i64 0, .int .u8 0, .int .u8 0, .int .u8 0, .int .u8 0, .int .u8 0, .int .u8 0, .int .u8 0, .int .u8 0, .string ⟨#[]⟩] 32)⟩, .inr ⟨_, Take.eq (A := cel b2 [.int .i64 0, .bool false, .int .i64 0, .int .i64 0, .int .i64 0, .int .u8 0, .int .u8 0, .int .u8 0, .int .u8 0, .int .u8 0, .int .u8 0, .int .u8 0, .int .u8 0, .string ⟨#[]⟩] 32)⟩, ?_⟩⟩
    refine R_only 12 rfl rfl (by kernel_rfl) (opx_call0 (ip05_spec 0 0 0 0 (by decide)) rfl rfl rfl) (fun _ _ => ⟨_, Take.eq (A := cel b2 [.int .i64 0, .bool false, .int .i64 0, .int .i64 0, .int .i64 0, .int .u8 0, .int .u8 0, .int .u8 0, .int .u8 0, .int .u8 0, .int .u8 0, .int .u8 0, .int .u8 0, .string ⟨#[]⟩] 32)⟩) (.inr fun _ _ => ⟨_, Take.eq (A := cel b2 [.int .i64 0, .bool false, .int .i64 0, .int .i64 0, .int .i64 0, .int .u8 0, .int .u8 0, .int .u8 0, .int .u8 0, .int .u8 0, .int .u8 0, .int .u8 0, .int .u8 0, .string ⟨#[]⟩] 32)⟩) (fun _ _ => ?_)
    refine Rg_emp ?_
    refine R_only 15 rfl rfl (by kernel_rfl) (opx_call0 (ip05_spec 0 0 0 0 (by decide)) rfl rfl rfl) (fun _ _ => ⟨_, Take.eq (A := cel b2 [.int .i64 0, .bool false, .int .i64 0, .int .i64 0, .int .i64 0, .int .u8 0, .int .u8 0, .int .u8 0, .int .u8 0, .int .u8 0, .int .u8 0, .int .u8 0, .int .u8 0, .string ⟨#[]⟩] 32)⟩) (.inr fun _ _ => ⟨_, Take.eq (A := cel b2 [.int .i64 0, .bool false, .int .i64 0, .int .i64 0, .int .i64 0, .int .u8 0, .int .u8 0, .int .u8 0, .int .u8 0, .int .u8 0, .int .u8 0, .int .u8 0, .int .u8 0, .string ⟨#[]⟩] 32)⟩) (fun _ _ => ?_)
    refine Rg_emp ?_
    refine R_pure 18 rfl (by kernel_rfl) (by kernel_rfl) (by kernel_rfl) (by kernel_rfl) (.inr ⟨_, Take.eq (A := cel b2 [.int .i64 0, .bool false, .int .i64 0, .int .i64 0, .int .i64 0, .int .u8 0, .int .u8 0, .int .u8 0, .int .u8 0, .int .u8 0, .int .u8 0, .int .u8 0, .int .u8 0, .string ⟨#[]⟩] 32)⟩) (opv_build rfl) rfl ?_
    refine R_only 20 rfl rfl (by kernel_rfl) (opx_store rfl rfl rfl (by simp [Value.oneCell'])) (fun _ _ => ⟨_, Take.eq (A := cel b2 [.int .i64 0, .bool false, .int .i64 0, .int .i64 0, .int .i64 0, .int .u8 0, .int .u8 0, .int .u8 0, .int .u8 0, .int .u8 0, .int .u8 0, .int .u8 0, .int .u8 0, .string ⟨#[]⟩] 32)⟩) (.inr fun _ _ => ⟨_, Take.eq (A := cel b2 [.int .i64 0, .bool false, .int .i64 0, .int .i64 0, .int .i64 0, .int .u8 0, .int .u8 0, .int .u8 0, .int .u8 0, .int .u8 0, .int .u8 0, .int .u8 0, .int .u8 0, .string ⟨#[]⟩] 32)⟩) (fun _ _ => ?_)
    refine R_done (by kernel_rfl) ?_
    refine K_then ?_
    refine J_seq ?_
    refine J_seq ?_
    refine J_region ?_
    refine L_v (opv_move rfl) rfl ?_
    refine L_v (opv_move rfl) rfl ?_
    refine L_gon rfl rfl rfl ?_
    first
      | refine L_v (opv_fieldAddr0 rfl) rfl ?_
      | refine L_v (opv_fieldAddr rfl) rfl ?_
    refine L_gon rfl rfl rfl ?_
    refine L_v (opv_loadS rfl) rfl ?_
    refine L_gon rfl rfl rfl ?_
    refine L_v (opv_buildA (pl := []) rfl rfl) rfl ?_
    refine L_gon rfl rfl rfl ?_
    refine L_v ((opv_eqlF rfl rfl (by simp [encR, Shape, CK.sh]) (by simp [encR, Shape, CK.sh])).bool_t rfl) rfl ?_
    first
      | refine L_v (opv_pick_tt rfl rfl) rfl ?_
      | refine L_v (opv_pick_ff rfl rfl) rfl ?_
      | refine L_v (opv_pick rfl rfl rfl) rfl ?_
    refine L_v (opv_move rfl) rfl ?_
    refine L_gon rfl rfl rfl ?_
    first
      | refine L_v (opv_fieldAddr0 rfl) rfl ?_
      | refine L_v (opv_fieldAddr rfl) rfl ?_
    refine L_gon rfl rfl rfl ?_
    refine L_v (opv_loadS rfl) rfl ?_
    refine L_gon rfl rfl rfl ?_
    refine L_v (opv_buildA (pl := []) rfl rfl) rfl ?_
    refine L_gon rfl rfl rfl ?_
    refine L_v ((opv_eqlF rfl rfl (by simp [encR, Shape, CK.sh]) (by simp [encR, Shape, CK.sh])).bool_t rfl) rfl ?_
    first
      | refine L_v (opv_pick_tt rfl rfl) rfl ?_
      | refine L_v (opv_pick_ff rfl rfl) rfl ?_
      | refine L_v (opv_pick rfl rfl rfl) rfl ?_
    refine L_nil ?_
    refine K_then ?_
    refine J_cond_true rfl ?_
    refine J_seq ?_
    refine J_region ?_
    first
      | refine L_v (opv_fieldAddr0 rfl) rfl ?_
      | refine L_v (opv_fieldAddr rfl) rfl ?_
    refine L_x rfl (opx_store rfl rfl rfl (by simp [Value.oneCell'])) (fun _ _ => ?_)
    refine L_nil ?_
    refine K_then ?_
    refine J_region ?_
    first
      | refine L_v (opv_fieldAddr0 rfl) rfl ?_
      | refine L_v (opv_fieldAddr rfl) rfl ?_
    refine L_x rfl (opx_store rfl rfl rfl (by simp [Value.oneCell'])) (fun _ _ => ?_)
    refine L_nil ?_
    refine K_then ?_
    refine J_seq ?_
    refine J_region ?_
    refine L_v (opv_loadS rfl) rfl ?_
    refine L_x rfl (opx_store rfl rfl rfl (by simp [Value.oneCell'])) (fun _ _ => ?_)
    refine L_nil ?_
    refine K_then ?_
    refine J_ret ?_
    exact K_ret1c (Q := fun _ _ _ => True) rfl rfl rfl () trivial rfl Ent.take

theorem PlainR_spec (R0 : HProp) (A : Option Addr) (c : Nat) (L : List Pk) (hR : RdS R0 encPk 14 A L) (ok : ∀ x ∈ L, okA x) (hn : L.length ≤ 100000) : FSpec Try.prog 22 #[.slice A L.length c] (R0) (fun r : Option Addr × Nat => True) (fun r => .slice r.1 L.length r.2) (fun r => (sep (R0) (Own 36 8 (.slice r.1 L.length r.2) L.length (L.flatMap encR)))) := by
  refine FSpec.enter' Try.func22 rfl Try.ntmps22 rfl fun σ F => ?_
  refine J_imp (sep (Own 36 8 (.slice none 0 0) ([] : List Pk).length (([] : List Pk).flatMap encR)) (sep (R0) (F))) (Ent.trans (Ent.of (emp_sep _).symm) ((Own.nil 36 8).frame _)) ?_
  refine J_seq ?_
  refine J_region ?_
  refine L_v (opv_assign rfl) rfl ?_
  refine L_nil ?_
  refine K_then ?_
  refine J_seq ?_
  refine J_region ?_
  refine L_v (opv_assign rfl) rfl ?_
  refine L_nil ?_
  refine K_then ?_
  refine J_seq ?_
  refine J_seq ?_
  refine J_region ?_
  refine L_v (opv_assign rfl) rfl ?_
  refine L_nil ?_
  refine K_then ?_
  refine J_block ?_
  refine J_loop (X := Nat × (Option Addr × Nat)) (fun y => [(0, .slice A L.length c), (3, .slice y.2.1 (L.take y.1).length y.2.2), (4, .int .i64 y.1)]) (fun y => (sep (Own 36 8 (.slice y.2.1 (L.take y.1).length y.2.2) (L.take y.1).length ((L.take y.1).flatMap encR)) (sep (R0) (F)))) (fun y => y.1 ≤ L.length) (fun y => L.length - y.1) ((0, (none, 0))) (Nat.zero_le _) ⟨rfl, rfl, rfl, trivial⟩ (Ent.refl _) (fun y hy => ?_)
  have hlt : (L.take y.1).length = y.1 := by rw [List.length_take]; omega
  refine J_seq ?_
  refine J_seq ?_
  refine J_region ?_
  refine L_v (opv_move rfl) rfl ?_
  refine L_v (opv_move rfl) rfl ?_
  first
    | refine L_v (opv_lenL rfl) rfl ?_
    | refine L_v (opv_lenS rfl) rfl ?_
  refine L_v (opv_lss rfl rfl) rfl ?_
  refine L_nil ?_
  refine K_then ?_
  refine J_cond rfl (fun h1 => ?_) (fun h1 => ?_)
  · have hkl : y.1 < L.length := by omega
    obtain ⟨x, hx⟩ : ∃ x, L[y.1]? = some x := ⟨_, List.getElem?_eq_getElem hkl⟩
    have okx := ok x (List.mem_of_getElem? hx)
    obtain ⟨b, o, rfl⟩ := hR.nonnil y.1 hkl
    refine J_skip ?_
    refine K_then ?_
    refine J_seq ?_
    refine J_block ?_
    refine J_region ?_
    refine L_v (opv_move rfl) rfl ?_
    refine L_v (opv_move rfl) rfl ?_
    refine L_v (opv_move rfl) rfl ?_
    first
      | refine L_v (opv_indexAddr rfl rfl (by omega)) rfl ?_
      | refine L_v (opv_indexAddrA rfl rfl (by omega)) rfl ?_
    refine L_v (opv_loadN (vs := [.int .i64 x.id, .bool x.more, .int .i64 x.off, .int .i64 x.ttl, .int .i64 x.proto, .int .u8 x.s0, .int .u8 x.s1, .int .u8 x.s2, .int .u8 x.s3, .int .u8 x.d0, .int .u8 x.d1, .int .u8 x.d2, .int .u8 x.d3, .string x.data]) rfl rfl (fun j u hj => Rd.of_take (S := R0) (hR.rd b o rfl y.1 x j u hx hj))) rfl ?_
    refine L_x rfl (opx_call0 (Plain05_f x okx) rfl rfl rfl) (fun _ _ => ?_)
    refine L_emp ?_
    refine L_x rfl (opx_buildSlice1 (m := 8) rfl rfl (by omega) (by omega) rfl) (fun b17 _ => ?_)
    refine L_x rfl (opx_append (m := 8) (B := 88) rfl rfl (Src.lit) rfl (by omega) rfl (encR_one _) (by unfold maxLen; omega) (by omega) rfl) (fun y18 _ => ?_)
    refine L_v (opv_assign rfl) rfl ?_
    refine L_nil ?_
    refine K_block ?_
    refine K_then ?_
    refine J_region ?_
    refine L_v (opv_move rfl) rfl ?_
    first
      | refine L_v (opv_add64 rfl rfl (by omega)) rfl ?_
      | refine L_v (opv_addS rfl rfl (by omega)) rfl ?_
      | refine L_v (opv_add rfl rfl) rfl ?_
    refine L_v (opv_assign rfl) rfl ?_
    refine L_nil ?_
    have htk := take_one hx
    rw [show (L.take y.1).length + 1 = (L.take (y.1 + 1)).length by rw [htk]; simp, show (L.take y.1).flatMap encR ++ encR x = (L.take (y.1 + 1)).flatMap encR by rw [htk]; simp]
    exact K_loop ((y.1 + 1, y18)) (by show y.1 + 1 ≤ _; omega) (by show _ - (y.1 + 1) < _; omega) ⟨rfl, rfl, rfl, trivial⟩ Ent.take
  · refine J_exit ?_
    refine K_then_exit ?_
    refine K_then_exit ?_
    refine K_block_here ?_
    refine K_then ?_
    refine J_seq ?_
    refine J_region ?_
    refine L_v (opv_move rfl) rfl ?_
    refine L_v (opv_assign rfl) rfl ?_
    refine L_nil ?_
    refine K_then ?_
    refine J_ret ?_
    have he : y.1 = L.length := by omega
    rw [show (L.take y.1) = L by rw [he]; exact List.take_length]
    exact K_ret1 rfl rfl y.2 trivial rfl (Ent.take (Q := (sep ((sep (R0) (Own 36 8 (.slice y.2.1 L.length y.2.2) L.length (L.flatMap encR)))) (F))))

theorem FJ_big (W : World) (A : Option Addr) (c : Nat) (xs : List Pk) (hR : RdS (old W) encPk 14 A xs) (hx : xs.length ≤ 9223372036854775807) (h : 50 < xs.length) : FSpec Try.prog 4 #[.slice A xs.length c] (old W) (fun _ : Unit => True) (fun _ => .bool true) (fun _ => old W) := by
  refine FSpec.enter' Try.func4 rfl Try.ntmps4 rfl fun σ F => ?_
  refine J_seq ?_
  refine J_region ?_
  refine L_v (opv_assign rfl) rfl ?_
  refine L_nil ?_
  refine K_then ?_
  refine J_seq ?_
  refine J_seq ?_
  refine J_region ?_
  refine L_v (opv_move rfl) rfl ?_
  first
    | refine L_v (opv_lenL rfl) rfl ?_
    | refine L_v (opv_lenS rfl) rfl ?_
  refine L_v ((opv_gtr rfl rfl).bool_t (by omega)) rfl ?_
  refine L_nil ?_
  refine K_then ?_
  refine J_cond_true rfl ?_
  refine J_seq ?_
  refine J_region ?_
  refine L_x rfl (opx_call0 (fawake_spec) rfl rfl rfl) (fun _ _ => ?_)
  refine L_emp ?_
  refine L_v (opv_assign rfl) rfl ?_
  refine L_nil ?_
  refine K_then ?_
  refine J_ret ?_
  refine K_then_ret ?_
  exact K_ret1 rfl rfl () trivial (rfl) Ent.take

set_option maxHeartbeats 600000 in
theorem FJ_0 (W : World) (A : Option Addr) (c : Nat) (xs : List Pk) (hR : RdS (old W) encPk 14 A xs) (hx : xs.length ≤ 9223372036854775807) (ok : ∀ x ∈ xs, okA x) (h : xs.length ≤ 50) (h0 : (joinC xs).2 = 0) : FSpec Try.prog 4 #[.slice A xs.length c] (old W) (fun _ : Unit => True) (fun _ => .bool true) (fun _ => old W) := by
  refine FSpec.enter' Try.func4 rfl Try.ntmps4 rfl fun σ F => ?_
  refine J_seq ?_
  refine J_region ?_
  refine L_v (opv_assign rfl) rfl ?_
  refine L_nil ?_
  refine K_then ?_
  refine J_seq ?_
  refine J_seq ?_
  refine J_region ?_
  refine L_v (opv_move rfl) rfl ?_
  first
    | refine L_v (opv_lenL rfl) rfl ?_
    | refine L_v (opv_lenS rfl) rfl ?_
  refine L_v ((opv_gtr rfl rfl).bool_f (by omega)) rfl ?_
  refine L_nil ?_
  refine K_then ?_
  refine J_cond_false rfl ?_
  refine J_skip ?_
  refine K_then ?_
  refine J_seq ?_
  refine J_seq ?_
  refine J_region ?_
  refine L_v (opv_assign rfl) rfl ?_
  refine L_nil ?_
  refine K_then ?_
  refine J_block ?_
  refine J_loop (X := Nat) (fun i => [(0, .slice A xs.length c), (3, .int .i64 i)]) (fun i => (sep (old W) (F))) (fun i => i ≤ xs.length ∧ ∀ j x, j < i → xs[j]? = some x → x.data.size ≤ 2000) (fun i => xs.length - i) (0) ⟨Nat.zero_le _, fun j x h => absurd h (Nat.not_lt_zero _)⟩ ⟨rfl, rfl, trivial⟩ (Ent.refl _) (fun i hi2 => ?_)
  obtain ⟨hi, hsm⟩ := hi2
  refine J_seq ?_
  refine J_seq ?_
  refine J_region ?_
  refine L_v (opv_move rfl) rfl ?_
  refine L_v (opv_move rfl) rfl ?_
  first
    | refine L_v (opv_lenL rfl) rfl ?_
    | refine L_v (opv_lenS rfl) rfl ?_
  refine L_v (opv_lss rfl rfl) rfl ?_
  refine L_nil ?_
  refine K_then ?_
  refine J_cond rfl (fun h1 => ?_) (fun h1 => ?_)
  · have hkl : i < xs.length := by omega
    obtain ⟨x, hxx⟩ : ∃ x, xs[i]? = some x := ⟨_, List.getElem?_eq_getElem hkl⟩
    obtain ⟨b, o, rfl⟩ := hR.nonnil i hkl
    refine J_skip ?_
    refine K_then ?_
    refine J_seq ?_
    refine J_block ?_
    refine J_seq ?_
    refine J_region ?_
    refine L_v (opv_move rfl) rfl ?_
    refine L_v (opv_move rfl) rfl ?_
    first
      | refine L_v (opv_indexAddr rfl rfl (by omega)) rfl ?_
      | refine L_v (opv_indexAddrA rfl rfl (by omega)) rfl ?_
    first
      | refine L_v (opv_fieldAddr0 rfl) rfl ?_
      | refine L_v (opv_fieldAddr rfl) rfl ?_
    refine L_v (opv_load rfl (Rd.of_take (S := old W) (hR.rd b o rfl i x 13 _ hxx rfl))) rfl ?_
    first
      | refine L_v (opv_lenL rfl) rfl ?_
      | refine L_v (opv_lenS rfl) rfl ?_
    refine L_v (opv_gtr rfl rfl) rfl ?_
    refine L_nil ?_
    refine K_then ?_
    refine J_cond rfl (fun h2 => ?_) (fun h2 => ?_)
    · refine J_seq ?_
      refine J_region ?_
      refine L_x rfl (opx_call0 (fawake_spec) rfl rfl rfl) (fun _ _ => ?_)
      refine L_emp ?_
      refine L_v (opv_assign rfl) rfl ?_
      refine L_nil ?_
      refine K_then ?_
      refine J_ret ?_
      refine K_block_ret ?_
      refine K_then_ret ?_
      refine K_then_ret ?_
      refine K_block_ret ?_
      refine K_then_ret ?_
      exact K_ret1 rfl rfl () trivial (rfl) Ent.take
    · refine J_skip ?_
      refine K_block ?_
      refine K_then ?_
      refine J_region ?_
      refine L_v (opv_move rfl) rfl ?_
      first
        | refine L_v (opv_add64 rfl rfl (by omega)) rfl ?_
        | refine L_v (opv_addS rfl rfl (by omega)) rfl ?_
        | refine L_v (opv_add rfl rfl) rfl ?_
      refine L_v (opv_assign rfl) rfl ?_
      refine L_nil ?_
      exact K_loop (i + 1) ⟨by omega, fun j y hj hy => by rcases (show j < i ∨ j = i by omega) with g | rfl; exact hsm j y g hy; rw [hxx] at hy; cases hy; omega⟩ (by omega) ⟨rfl, rfl, trivial⟩ (Ent.refl _)
  · have hsz : ∀ x ∈ xs, x.data.size ≤ 2000 := fun x hx => by
        obtain ⟨j, hj⟩ := List.getElem?_of_mem hx
        have := glt hj
        exact hsm j x (by omega) hj
    refine J_exit ?_
    refine K_then_exit ?_
    refine K_then_exit ?_
    refine K_block_here ?_
    refine K_then ?_
    refine J_seq ?_
    refine J_region ?_
    refine L_v (opv_move rfl) rfl ?_
    refine L_x rfl (opx_call0 (Join_any (old W) A c xs hR (by omega) (fun x hx => by have := hsz x hx; omega)) rfl rfl rfl) (fun _ _ => ?_)
    refine L_v (opv_move rfl) rfl ?_
    refine L_v (opv_extract (v := .agg [.int .i64 (joinC xs).1.id, .bool (joinC xs).1.more, .int .i64 (joinC xs).1.off, .int .i64 (joinC xs).1.ttl, .int .i64 (joinC xs).1.proto, .int .u8 (joinC xs).1.s0, .int .u8 (joinC xs).1.s1, .int .u8 (joinC xs).1.s2, .int .u8 (joinC xs).1.s3, .int .u8 (joinC xs).1.d0, .int .u8 (joinC xs).1.d1, .int .u8 (joinC xs).1.d2, .int .u8 (joinC xs).1.d3, .string (joinC xs).1.data].toArray) rfl rfl) rfl ?_
    refine L_v (opv_extract rfl rfl) rfl ?_
    refine L_x rfl (opx_alloc rfl) (fun b4 _ => ?_)
    refine L_x rfl (opx_store rfl rfl rfl (by simp [Value.oneCell'])) (fun _ _ => ?_)
    refine L_v (opv_assign rfl) rfl ?_
    refine L_nil ?_
    refine K_then ?_
    refine J_seq ?_
    refine J_region ?_
    refine L_v (opv_move rfl) rfl ?_
    refine L_x rfl (opx_call0 (PlainR_spec (old W) A c xs hR ok (by omega)) rfl rfl rfl) (fun r _ => ?_)
    refine L_x rfl (opx_call0 (RJoin_own r.1 r.2 xs h hsz ok) rfl rfl rfl) (fun _ _ => ?_)
    rw [rj_0 h0]
    refine L_v (opv_move rfl) rfl ?_
    refine L_v (opv_extract (v := .agg [.int .i64 (joinC xs).1.id, .bool (joinC xs).1.more, .int .i64 (joinC xs).1.off, .int .i64 (joinC xs).1.ttl, .int .i64 (joinC xs).1.proto, .string (bytesL [(joinC xs).1.s0, (joinC xs).1.s1, (joinC xs).1.s2, (joinC xs).1.s3]), .string (bytesL [(joinC xs).1.d0, (joinC xs).1.d1, (joinC xs).1.d2, (joinC xs).1.d3]), .string (joinC xs).1.data].toArray) rfl rfl) rfl ?_
    refine L_v (opv_extract rfl rfl) rfl ?_
    refine L_x rfl (opx_alloc rfl) (fun b6 _ => ?_)
    refine L_x rfl (opx_store rfl rfl rfl (by simp [Value.oneCell'])) (fun _ _ => ?_)
    refine L_v (opv_assign rfl) rfl ?_
    refine L_nil ?_
    refine K_then ?_
    refine J_seq ?_
    refine J_quiet Try.mixed (by kernel_rfl) ?_
    refine Q_v (opv_loadS rfl) rfl ?_
    refine Q_v (opv_move rfl) rfl ?_
    refine Q_v ((opv_neq rfl rfl).bool_f (fun n => n h0)) rfl ?_
    refine Q_call (Plain05_f (joinC xs).1 (okA_join ok h0)) rfl rfl (fun _ _ => rfl) (fun _ _ => Ent.refl _) rfl ?_
    refine Q_v (opv_loadS rfl) rfl ?_
    refine Q_v ((opv_eqlF rfl rfl (by simp [encR, Shape, CK.sh]) (by simp [encR, Shape, CK.sh])).bool_t rfl) rfl ?_
    refine Q_v (opv_move rfl) rfl ?_
    refine Q_gon rfl rfl rfl ?_
    refine Q_v (opv_move rfl) rfl ?_
    refine Q_gon rfl rfl rfl ?_
    refine Q_v (opv_move rfl) rfl ?_
    refine Q_gon rfl rfl rfl ?_
    refine Q_v ((opv_eql rfl rfl).bool_t rfl) rfl ?_
    first
      | refine Q_v (opv_pick_tt rfl rfl) rfl ?_
      | refine Q_v (opv_pick_ff rfl rfl) rfl ?_
      | refine Q_v (opv_pick rfl rfl rfl) rfl ?_
    refine Q_v (opv_move rfl) rfl ?_
    refine Q_gon rfl rfl rfl ?_
    refine Q_call (fawake_spec) rfl rfl (fun _ _ => rfl) (fun _ _ => Ent.refl _) rfl ?_
    first
      | refine Q_v (opv_pick_tt rfl rfl) rfl ?_
      | refine Q_v (opv_pick_ff rfl rfl) rfl ?_
      | refine Q_v (opv_pick rfl rfl rfl) rfl ?_
    refine Q_v (opv_assign rfl) rfl ?_
    refine QL_nil ?_
    refine K_then ?_
    refine J_ret ?_
    exact K_ret1 rfl rfl () trivial (rfl) Ent.take

set_option maxHeartbeats 600000 in
theorem FJ_1 (W : World) (A : Option Addr) (c : Nat) (xs : List Pk) (hR : RdS (old W) encPk 14 A xs) (hx : xs.length ≤ 9223372036854775807) (ok : ∀ x ∈ xs, okA x) (h : xs.length ≤ 50) (h0 : (joinC xs).2 ≠ 0) : FSpec Try.prog 4 #[.slice A xs.length c] (old W) (fun _ : Unit => True) (fun _ => .bool true) (fun _ => old W) := by
  refine FSpec.enter' Try.func4 rfl Try.ntmps4 rfl fun σ F => ?_
  refine J_seq ?_
  refine J_region ?_
  refine L_v (opv_assign rfl) rfl ?_
  refine L_nil ?_
  refine K_then ?_
  refine J_seq ?_
  refine J_seq ?_
  refine J_region ?_
  refine L_v (opv_move rfl) rfl ?_
  first
    | refine L_v (opv_lenL rfl) rfl ?_
    | refine L_v (opv_lenS rfl) rfl ?_
  refine L_v ((opv_gtr rfl rfl).bool_f (by omega)) rfl ?_
  refine L_nil ?_
  refine K_then ?_
  refine J_cond_false rfl ?_
  refine J_skip ?_
  refine K_then ?_
  refine J_seq ?_
  refine J_seq ?_
  refine J_region ?_
  refine L_v (opv_assign rfl) rfl ?_
  refine L_nil ?_
  refine K_then ?_
  refine J_block ?_
  refine J_loop (X := Nat) (fun i => [(0, .slice A xs.length c), (3, .int .i64 i)]) (fun i => (sep (old W) (F))) (fun i => i ≤ xs.length ∧ ∀ j x, j < i → xs[j]? = some x → x.data.size ≤ 2000) (fun i => xs.length - i) (0) ⟨Nat.zero_le _, fun j x h => absurd h (Nat.not_lt_zero _)⟩ ⟨rfl, rfl, trivial⟩ (Ent.refl _) (fun i hi2 => ?_)
  obtain ⟨hi, hsm⟩ := hi2
  refine J_seq ?_
  refine J_seq ?_
  refine J_region ?_
  refine L_v (opv_move rfl) rfl ?_
  refine L_v (opv_move rfl) rfl ?_
  first
    | refine L_v (opv_lenL rfl) rfl ?_
    | refine L_v (opv_lenS rfl) rfl ?_
  refine L_v (opv_lss rfl rfl) rfl ?_
  refine L_nil ?_
  refine K_then ?_
  refine J_cond rfl (fun h1 => ?_) (fun h1 => ?_)
  · have hkl : i < xs.length := by omega
    obtain ⟨x, hxx⟩ : ∃ x, xs[i]? = some x := ⟨_, List.getElem?_eq_getElem hkl⟩
    obtain ⟨b, o, rfl⟩ := hR.nonnil i hkl
    refine J_skip ?_
    refine K_then ?_
    refine J_seq ?_
    refine J_block ?_
    refine J_seq ?_
    refine J_region ?_
    refine L_v (opv_move rfl) rfl ?_
    refine L_v (opv_move rfl) rfl ?_
    first
      | refine L_v (opv_indexAddr rfl rfl (by omega)) rfl ?_
      | refine L_v (opv_indexAddrA rfl rfl (by omega)) rfl ?_
    first
      | refine L_v (opv_fieldAddr0 rfl) rfl ?_
      | refine L_v (opv_fieldAddr rfl) rfl ?_
    refine L_v (opv_load rfl (Rd.of_take (S := old W) (hR.rd b o rfl i x 13 _ hxx rfl))) rfl ?_
    first
      | refine L_v (opv_lenL rfl) rfl ?_
      | refine L_v (opv_lenS rfl) rfl ?_
    refine L_v (opv_gtr rfl rfl) rfl ?_
    refine L_nil ?_
    refine K_then ?_
    refine J_cond rfl (fun h2 => ?_) (fun h2 => ?_)
    · refine J_seq ?_
      refine J_region ?_
      refine L_x rfl (opx_call0 (fawake_spec) rfl rfl rfl) (fun _ _ => ?_)
      refine L_emp ?_
      refine L_v (opv_assign rfl) rfl ?_
      refine L_nil ?_
      refine K_then ?_
      refine J_ret ?_
      refine K_block_ret ?_
      refine K_then_ret ?_
      refine K_then_ret ?_
      refine K_block_ret ?_
      refine K_then_ret ?_
      exact K_ret1 rfl rfl () trivial (rfl) Ent.take
    · refine J_skip ?_
      refine K_block ?_
      refine K_then ?_
      refine J_region ?_
      refine L_v (opv_move rfl) rfl ?_
      first
        | refine L_v (opv_add64 rfl rfl (by omega)) rfl ?_
        | refine L_v (opv_addS rfl rfl (by omega)) rfl ?_
        | refine L_v (opv_add rfl rfl) rfl ?_
      refine L_v (opv_assign rfl) rfl ?_
      refine L_nil ?_
      exact K_loop (i + 1) ⟨by omega, fun j y hj hy => by rcases (show j < i ∨ j = i by omega) with g | rfl; exact hsm j y g hy; rw [hxx] at hy; cases hy; omega⟩ (by omega) ⟨rfl, rfl, trivial⟩ (Ent.refl _)
  · have hsz : ∀ x ∈ xs, x.data.size ≤ 2000 := fun x hx => by
        obtain ⟨j, hj⟩ := List.getElem?_of_mem hx
        have := glt hj
        exact hsm j x (by omega) hj
    refine J_exit ?_
    refine K_then_exit ?_
    refine K_then_exit ?_
    refine K_block_here ?_
    refine K_then ?_
    refine J_seq ?_
    refine J_region ?_
    refine L_v (opv_move rfl) rfl ?_
    refine L_x rfl (opx_call0 (Join_any (old W) A c xs hR (by omega) (fun x hx => by have := hsz x hx; omega)) rfl rfl rfl) (fun _ _ => ?_)
    rw [join_z h0]
    refine L_v (opv_move rfl) rfl ?_
    refine L_v (opv_extract (v := .agg [.int .i64 0, .bool false, .int .i64 0, .int .i64 0, .int .i64 0, .int .u8 0, .int .u8 0, .int .u8 0, .int .u8 0, .int .u8 0, .int .u8 0, .int .u8 0, .int .u8 0, .string ⟨#[]⟩].toArray) rfl rfl) rfl ?_
    refine L_v (opv_extract rfl rfl) rfl ?_
    refine L_x rfl (opx_alloc rfl) (fun b4 _ => ?_)
    refine L_x rfl (opx_store rfl rfl rfl (by simp [Value.oneCell'])) (fun _ _ => ?_)
    refine L_v (opv_assign rfl) rfl ?_
    refine L_nil ?_
    refine K_then ?_
    refine J_seq ?_
    refine J_region ?_
    refine L_v (opv_move rfl) rfl ?_
    refine L_x rfl (opx_call0 (PlainR_spec (old W) A c xs hR ok (by omega)) rfl rfl rfl) (fun r _ => ?_)
    refine L_x rfl (opx_call0 (RJoin_own r.1 r.2 xs h hsz ok) rfl rfl rfl) (fun _ _ => ?_)
    rw [rj_z h0]
    refine L_v (opv_move rfl) rfl ?_
    refine L_v (opv_extract (v := .agg [.int .i64 0, .bool false, .int .i64 0, .int .i64 0, .int .i64 0, .string ⟨#[]⟩, .string ⟨#[]⟩, .string ⟨#[]⟩].toArray) rfl rfl) rfl ?_
    refine L_v (opv_extract rfl rfl) rfl ?_
    refine L_x rfl (opx_alloc rfl) (fun b6 _ => ?_)
    refine L_x rfl (opx_store rfl rfl rfl (by simp [Value.oneCell'])) (fun _ _ => ?_)
    refine L_v (opv_assign rfl) rfl ?_
    refine L_nil ?_
    refine K_then ?_
    refine J_seq ?_
    refine J_quiet Try.mixed (by kernel_rfl) ?_
    refine Q_v (opv_loadS rfl) rfl ?_
    refine Q_v (opv_move rfl) rfl ?_
    refine Q_v ((opv_neq rfl rfl).bool_t h0) rfl ?_
    refine Q_call (Plain05_z) rfl rfl (fun _ _ => rfl) (fun _ _ => Ent.refl _) rfl ?_
    refine Q_v (opv_loadS rfl) rfl ?_
    refine Q_v ((opv_eqlF rfl rfl (by simp [encR, Shape, CK.sh]) (by simp [encR, Shape, CK.sh])).bool_t rfl) rfl ?_
    refine Q_v (opv_move rfl) rfl ?_
    refine Q_gon rfl rfl rfl ?_
    refine Q_v (opv_move rfl) rfl ?_
    refine Q_gon rfl rfl rfl ?_
    refine Q_v (opv_move rfl) rfl ?_
    refine Q_gon rfl rfl rfl ?_
    refine Q_v ((opv_eql rfl rfl).bool_t rfl) rfl ?_
    first
      | refine Q_v (opv_pick_tt rfl rfl) rfl ?_
      | refine Q_v (opv_pick_ff rfl rfl) rfl ?_
      | refine Q_v (opv_pick rfl rfl rfl) rfl ?_
    refine Q_v (opv_move rfl) rfl ?_
    refine Q_gon rfl rfl rfl ?_
    refine Q_call (fawake_spec) rfl rfl (fun _ _ => rfl) (fun _ _ => Ent.refl _) rfl ?_
    first
      | refine Q_v (opv_pick_tt rfl rfl) rfl ?_
      | refine Q_v (opv_pick_ff rfl rfl) rfl ?_
      | refine Q_v (opv_pick rfl rfl rfl) rfl ?_
    refine Q_v (opv_assign rfl) rfl ?_
    refine QL_nil ?_
    refine K_then ?_
    refine J_ret ?_
    exact K_ret1 rfl rfl () trivial (rfl) Ent.take


theorem FragJoins_law (W : World) (A : Option Addr) (len c : Nat) (xs : List Pk) (ok : ∀ x ∈ xs, okPk x) (h : ArrIn W encPk 14 A len xs) (hl : len ≤ c) (hc : c ≤ maxLen) : FSpec Try.prog 4 #[.slice A len c] (old W) (fun _ : Unit => True) (fun _ => .bool true) (fun _ => old W) := by
  have e := h.1
  subst e
  have hn : xs.length ≤ 9223372036854775807 := by unfold maxLen at hc; omega
  by_cases hb : 50 < xs.length
  · exact FJ_big W A c xs (RdS.old h) hn hb
  · by_cases h0 : (joinC xs).2 = 0
    · exact FJ_0 W A c xs (RdS.old h) hn (fun x hx => (ok x hx).a) (by omega) h0
    · exact FJ_1 W A c xs (RdS.old h) hn (fun x hx => (ok x hx).a) (by omega) h0

end Go.Proofs.Ytjpbpfihacfndaa
namespace Go.Proofs.Ytjpbpfihacfndaa.fragJoins
open Go.ChangeShapes Go.WideShapes Go.ChangeAt Go.RowKit Go.SLA
open Go.ChangeMaps (open_string shut_string)
set_option linter.unusedVariables false
theorem own : ownKnob Try.prog.godebug = none := by kernel_rfl
theorem laidOut : laidOutB Try.prog = true := by kernel_rfl
set_option maxRecDepth 100000 in
theorem lifted (os : Os) (started : os.Started) (H : Type) (enc : TypeId × Value → H) :
    ReturnsInHanded {} Try.checked os 4 .any (Rows.fragJoinsSpec.pre6 enc Try.prog Try.f4 Rows.fragJoinsRow.domain false) (Rows.fragJoinsSpec.post enc Try.prog Try.f4 false true false false) := by
  refine returnsInHanded_of_change_sized (C := Try.checked) own started (by kernel_rfl) Try.func4
    (ChangeSpec.witness6 (enc := enc) (C := Try.checked) false ⟨#[], #[.slice none 0 0], []⟩ 8 (by kernel_rfl) (by kernel_rfl) (by kernel_rfl) (by kernel_rfl)) ?_
  intro W base args ds gs before hval0 hW hcnd hsz0 _
  have hsz : (DataW.weightsEach Try.prog (Try.f4.params.toList ++ Rows.fragJoinsSpec.plain.varTypes Try.prog) (ds ++ gs)).all (· ≤ reachBytes) = true := hsz0
  have hval : ∀ (j : Nat) t v, Try.f4.params[j]? = some t → args[j]? = some v → Value.okWide Try.prog W .any base t v := hval0
  have hW' := hW
  obtain ⟨p, q, hA0, hV, rfl, hfz, hnd⟩ := hW
  have hA : DataW.TrodAll enc Try.prog W 0 (fun _ => true) true Try.f4.params.toList args.toList ds p := hA0
  rw [Try.params4] at hA hval hsz
  obtain ⟨v0, vs0, d0, ds0, p0, q0, hargs, rfl, rfl, h0, r0⟩ := trodAll_cons hA
  obtain ⟨rfl, rfl, rfl⟩ := trodAll_nil r0
  obtain rfl : args = #[v0] := by cases args; simp_all
  obtain ⟨rfl, rfl⟩ := trodVars_none hV
  have k0 := h0
  have lt0 : ∀ x ∈ p0, x.block < W.heap.size := by obtain ⟨m, hm⟩ := k0; exact DataW.trod_lt m _ _ _ hm
  obtain ⟨A0, len0, cap0, xs0, rfl, hl0, hc0, harr0, hok0⟩ := open_arr (D := 5) (ks := ksPk) (en := encPk) (ok := okPk) Try.underlying28 (by kernel_rfl) (by kernel_rfl) (by decide) (fun cs h => decPk cs h) (hval 0 28 v0 rfl rfl) h0
  clear hA0 hval0 hsz0 hsz
  refine (FSpec.law (FragJoins_law W A0 len0 cap0 xs0 hok0 harr0 hl0 hc0)).mono fun e W' ⟨he, bel⟩ => ?_
  subst he
  exact ⟨_, rfl, _, _, _, [], _, [], hW', trodAll_mk1 (shut_bool Try.underlying4 _), (trodAll_cons_mk (Below.trod laidOut (by kernel_rfl) (of_decide_eq_true (by kernel_rfl)) k0 bel lt0) trodAll_mk0), rfl, bel.frame _, fun h => by cases h⟩
theorem over : Rows.fragJoinsRow.holds Try.pinned (OpenSpec.ofChange Rows.fragJoinsSpec) :=
  OpenClaim.holds_of_wide 4 Try.f4 rfl rfl rfl rfl rfl rfl rfl ⟨rfl, rfl, rfl, rfl, rfl⟩ rfl rfl rfl rfl rfl (by kernel_rfl) Try.func4 (by kernel_rfl)
    (of_decide_eq_true (by kernel_rfl)) (by unfold Func.isWrapper; first | (rw [if_pos (by decide +kernel)]; kernel_rfl) | (rw [if_neg (by decide +kernel)]; exact ⟨rfl, rfl⟩))
    (fun os started H enc _ => lifted os started H enc)
end Go.Proofs.Ytjpbpfihacfndaa.fragJoins
namespace Go.Proofs.Ytjpbpfihacfndaa
theorem fragJoins_holds : Rows.FragJoinsSaid := fragJoins.over
#print axioms fragJoins_holds
end Go.Proofs.Ytjpbpfihacfndaa
namespace Go.Proofs.Ytjpbpfihacfndaa
open Go.SLA
end Go.Proofs.Ytjpbpfihacfndaa
