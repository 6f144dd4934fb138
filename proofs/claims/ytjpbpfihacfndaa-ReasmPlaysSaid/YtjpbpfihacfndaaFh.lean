/- The law FragJoins of the package pitotlaw08 holds for every input: which packet parts are of, or why of none. No condition. -/
import Derived.Test.YtjpbpfihacfndaaFg
import Derived.Test.YtjpbpfihacfndaaH
namespace Go.Proofs.Ytjpbpfihacfndaa
open Go.SLA
set_option maxRecDepth 100000
set_option linter.unusedVariables false
set_option linter.unusedSimpArgs false
attribute [local irreducible] J L K QL Rg FSpec OpV OpX Rd Back

theorem byt_inj {a b : List Int} (ha : ∀ v ∈ a, 0 ≤ v ∧ v < 256) (hb : ∀ v ∈ b, 0 ≤ v ∧ v < 256) (h : bytesL a = bytesL b) : a = b := by
  have h1 := congrArg bts h
  rw [bts_bytesL a ha, bts_bytesL b hb] at h1
  exact List.map_inj_right (fun x y hxy => by injection hxy) |>.1 h1
theorem byt_s {x y : Pk} (hx : okA x) (hy : okA y) (h : bytesL [x.s0, x.s1, x.s2, x.s3] = bytesL [y.s0, y.s1, y.s2, y.s3]) : x.s0 = y.s0 ∧ x.s1 = y.s1 ∧ x.s2 = y.s2 ∧ x.s3 = y.s3 := by
  have := byt_inj hx.1 hy.1 h
  simpa using this
theorem byt_d {x y : Pk} (hx : okA x) (hy : okA y) (h : bytesL [x.d0, x.d1, x.d2, x.d3] = bytesL [y.d0, y.d1, y.d2, y.d3]) : x.d0 = y.d0 ∧ x.d1 = y.d1 ∧ x.d2 = y.d2 ∧ x.d3 = y.d3 := by
  have := byt_inj hx.2 hy.2 h
  simpa using this
/-- What the reference makes of parts. -/
def rjV (L : List Pk) : List Value := if (joinC L).2 = 0 then encR (joinC L).1 else [.int .i64 0, .bool false, .int .i64 0, .int .i64 0, .int .i64 0, .string ⟨#[]⟩, .string ⟨#[]⟩, .string ⟨#[]⟩]
theorem rjV_bad {L : List Pk} {p : Pk} {e : Int} (h : joinC L = (p, e)) (he : e ≠ 0) : rjV L = [.int .i64 0, .bool false, .int .i64 0, .int .i64 0, .int .i64 0, .string ⟨#[]⟩, .string ⟨#[]⟩, .string ⟨#[]⟩] := by unfold rjV; rw [h]; exact if_neg he
theorem rjV_ok {L : List Pk} {p : Pk} (h : joinC L = (p, 0)) : rjV L = encR p := by unfold rjV; rw [h]; exact if_pos rfl
theorem odd_all {L : List Pk} {p : Pk} (h : ¬ odd L p < L.length) {i : Nat} {x : Pk} (hx : L[i]? = some x) : bareEq x p := by
  have hl := glt hx
  have h2 : i < odd L p := by have := odd_le L p; omega
  have := List.not_of_lt_findIdx h2
  rw [List.getElem?_eq_getElem hl] at hx
  simp only [Option.some.injEq] at hx
  rw [hx] at this
  simpa using this

theorem RJoin_emp (R1 : HProp) (A : Option Addr) (c : Nat) (L : List Pk) (hR : RdS R1 encR 8 A L) (hn : L.length ≤ 50) (hz : ∀ x ∈ L, x.data.size ≤ 2000) (h : L = []) : FSpec Try.prog 21 #[.slice A L.length c] (R1) (fun _ : Unit => True) (fun _ => .tuple #[.agg (rjV L).toArray, .int .i64 (joinC L).2]) (fun _ => R1) := by
  refine FSpec.enter' Try.func21 rfl Try.ntmps21 rfl fun σ F => ?_
  refine J_seq ?_
  refine J_region ?_
  refine L_x rfl (opx_alloc rfl) (fun b2 _ => ?_)
  refine L_v (opv_assign rfl) rfl ?_
  refine L_nil ?_
  refine K_then ?_
  refine J_seq ?_
  refine J_seq ?_
  refine J_region ?_
  refine L_v (opv_move rfl) rfl ?_
  first
    | refine L_v (opv_lenL rfl) rfl ?_
    | refine L_v (opv_lenS rfl) rfl ?_
  refine L_v ((opv_eql rfl rfl).bool_t (by rw [h]; rfl)) rfl ?_
  refine L_nil ?_
  refine K_then ?_
  refine J_cond_true rfl ?_
  refine J_seq ?_
  refine J_region ?_
  refine L_v (opv_build rfl) rfl ?_
  refine L_x rfl (opx_store rfl rfl rfl (by simp [Value.oneCell'])) (fun _ _ => ?_)
  refine L_v (opv_assign rfl) rfl ?_
  refine L_nil ?_
  refine K_then ?_
  refine J_ret ?_
  refine K_then_ret ?_
  have e := join_emp h
  exact K_ret2c rfl rfl rfl rfl () trivial (by rw [rjV_bad e (by first | decide | assumption), e]) Ent.take

set_option maxHeartbeats 600000 in
theorem RJoin_odd (R1 : HProp) (A : Option Addr) (c : Nat) (L : List Pk) (hR : RdS R1 encR 8 A L) (hn : L.length ≤ 50) (hz : ∀ x ∈ L, x.data.size ≤ 2000) (ok : ∀ x ∈ L, okA x) (x0 : Pk) (hx0 : L[0]? = some x0) (h : odd L x0 < L.length) : FSpec Try.prog 21 #[.slice A L.length c] (R1) (fun _ : Unit => True) (fun _ => .tuple #[.agg (rjV L).toArray, .int .i64 (joinC L).2]) (fun _ => R1) := by
  have hlen := glt hx0
  obtain ⟨b, o, rfl⟩ := hR.nonnil 0 hlen
  have ok0 := ok x0 (List.mem_of_getElem? hx0)
  refine FSpec.enter' Try.func21 rfl Try.ntmps21 rfl fun σ F => ?_
  refine J_seq ?_
  refine J_region ?_
  refine L_x rfl (opx_alloc rfl) (fun b2 _ => ?_)
  refine L_v (opv_assign rfl) rfl ?_
  refine L_nil ?_
  refine K_then ?_
  refine J_seq ?_
  refine J_seq ?_
  refine J_region ?_
  refine L_v (opv_move rfl) rfl ?_
  first
    | refine L_v (opv_lenL rfl) rfl ?_
    | refine L_v (opv_lenS rfl) rfl ?_
  refine L_v ((opv_eql rfl rfl).bool_f (by omega)) rfl ?_
  refine L_nil ?_
  refine K_then ?_
  refine J_cond_false rfl ?_
  refine J_skip ?_
  refine K_then ?_
  refine J_seq ?_
  refine J_seq ?_
  refine J_region ?_
  refine L_v (opv_assign rfl) rfl ?_
  refine L_nil ?_
  refine K_then ?_
  refine J_block ?_
  refine J_loop (X := Nat) (fun i => [(0, .slice (some (ad b o)) L.length c), (2, .pointer (some (ad b2 0))), (4, .int .i64 i)]) (fun i => (sep (cel b2 [.int .i64 0, .bool false, .int .i64 0, .int .i64 0, .int .i64 0, .string ⟨#[]⟩, .string ⟨#[]⟩, .string ⟨#[]⟩] 36) (sep (R1) (F)))) (fun i => i ≤ odd L x0) (fun i => L.length - i) (0) (Nat.zero_le _) ⟨rfl, rfl, rfl, trivial⟩ Ent.take (fun i hi => ?_)
  have hil : i < L.length := by omega
  obtain ⟨x, hx⟩ : ∃ x, L[i]? = some x := ⟨_, List.getElem?_eq_getElem hil⟩
  have okx := ok x (List.mem_of_getElem? hx)
  rcases Decidable.em (bareEq x x0) with heq | hne
  · refine J_seq ?_
    refine J_seq ?_
    refine J_region ?_
    refine L_v (opv_move rfl) rfl ?_
    refine L_v (opv_move rfl) rfl ?_
    first
      | refine L_v (opv_lenL rfl) rfl ?_
      | refine L_v (opv_lenS rfl) rfl ?_
    refine L_v ((opv_lss rfl rfl).bool_t (by omega)) rfl ?_
    refine L_nil ?_
    refine K_then ?_
    refine J_cond_true rfl ?_
    refine J_skip ?_
    refine K_then ?_
    refine J_seq ?_
    refine J_block ?_
    refine J_seq ?_
    refine J_quiet Try.mixed (by kernel_rfl) ?_
    refine Q_v (opv_move rfl) rfl ?_
    refine Q_v (opv_move rfl) rfl ?_
    first
      | refine Q_v (opv_indexAddr rfl rfl (by omega)) rfl ?_
      | refine Q_v (opv_indexAddrA rfl rfl (by omega)) rfl ?_
    first
      | refine Q_v (opv_fieldAddr0 rfl) rfl ?_
      | refine Q_v (opv_fieldAddr rfl) rfl ?_
    refine Q_v (opv_load rfl (Rd.of_take (S := R1) (hR.rd b o rfl i x 0 _ hx rfl))) rfl ?_
    refine Q_v (opv_move rfl) rfl ?_
    refine Q_v (opv_indexAddr rfl rfl (by omega)) rfl ?_
    first
      | refine Q_v (opv_fieldAddr0 rfl) rfl ?_
      | refine Q_v (opv_fieldAddr rfl) rfl ?_
    refine Q_v (opv_load rfl (Rd.of_take (S := R1) (hR.rd b o rfl 0 x0 0 _ hx0 rfl))) rfl ?_
    first
      | refine Q_v ((opv_neq rfl rfl).bool_f (fun n => n heq.1)) rfl ?_
      | refine Q_v (opv_neq rfl rfl) rfl ?_
    refine Q_v (opv_move rfl) rfl ?_
    refine Q_gon rfl rfl rfl ?_
    refine Q_v (opv_move rfl) rfl ?_
    refine Q_gon rfl rfl rfl ?_
    refine Q_v (opv_move rfl) rfl ?_
    refine Q_gon rfl rfl rfl ?_
    first
      | refine Q_v (opv_indexAddr rfl rfl (by omega)) rfl ?_
      | refine Q_v (opv_indexAddrA rfl rfl (by omega)) rfl ?_
    refine Q_gon rfl rfl rfl ?_
    first
      | refine Q_v (opv_fieldAddr0 rfl) rfl ?_
      | refine Q_v (opv_fieldAddr rfl) rfl ?_
    refine Q_gon rfl rfl rfl ?_
    refine Q_v (opv_load rfl (Rd.of_take (S := R1) (hR.rd b o rfl i x 3 _ hx rfl))) rfl ?_
    refine Q_gon rfl rfl rfl ?_
    refine Q_v (opv_move rfl) rfl ?_
    refine Q_gon rfl rfl rfl ?_
    refine Q_v (opv_indexAddr rfl rfl (by omega)) rfl ?_
    refine Q_gon rfl rfl rfl ?_
    first
      | refine Q_v (opv_fieldAddr0 rfl) rfl ?_
      | refine Q_v (opv_fieldAddr rfl) rfl ?_
    refine Q_gon rfl rfl rfl ?_
    refine Q_v (opv_load rfl (Rd.of_take (S := R1) (hR.rd b o rfl 0 x0 3 _ hx0 rfl))) rfl ?_
    refine Q_gon rfl rfl rfl ?_
    first
      | refine Q_v ((opv_neq rfl rfl).bool_f (fun n => n heq.2.1)) rfl ?_
      | refine Q_v (opv_neq rfl rfl) rfl ?_
    first
      | refine Q_v (opv_pick_tt rfl rfl) rfl ?_
      | refine Q_v (opv_pick_ff rfl rfl) rfl ?_
      | refine Q_v (opv_pick rfl rfl rfl) rfl ?_
    refine Q_v (opv_move rfl) rfl ?_
    refine Q_gon rfl rfl rfl ?_
    refine Q_v (opv_move rfl) rfl ?_
    refine Q_gon rfl rfl rfl ?_
    refine Q_v (opv_move rfl) rfl ?_
    refine Q_gon rfl rfl rfl ?_
    first
      | refine Q_v (opv_indexAddr rfl rfl (by omega)) rfl ?_
      | refine Q_v (opv_indexAddrA rfl rfl (by omega)) rfl ?_
    refine Q_gon rfl rfl rfl ?_
    first
      | refine Q_v (opv_fieldAddr0 rfl) rfl ?_
      | refine Q_v (opv_fieldAddr rfl) rfl ?_
    refine Q_gon rfl rfl rfl ?_
    refine Q_v (opv_load rfl (Rd.of_take (S := R1) (hR.rd b o rfl i x 4 _ hx rfl))) rfl ?_
    refine Q_gon rfl rfl rfl ?_
    refine Q_v (opv_move rfl) rfl ?_
    refine Q_gon rfl rfl rfl ?_
    refine Q_v (opv_indexAddr rfl rfl (by omega)) rfl ?_
    refine Q_gon rfl rfl rfl ?_
    first
      | refine Q_v (opv_fieldAddr0 rfl) rfl ?_
      | refine Q_v (opv_fieldAddr rfl) rfl ?_
    refine Q_gon rfl rfl rfl ?_
    refine Q_v (opv_load rfl (Rd.of_take (S := R1) (hR.rd b o rfl 0 x0 4 _ hx0 rfl))) rfl ?_
    refine Q_gon rfl rfl rfl ?_
    first
      | refine Q_v ((opv_neq rfl rfl).bool_f (fun n => n heq.2.2.1)) rfl ?_
      | refine Q_v (opv_neq rfl rfl) rfl ?_
    first
      | refine Q_v (opv_pick_tt rfl rfl) rfl ?_
      | refine Q_v (opv_pick_ff rfl rfl) rfl ?_
      | refine Q_v (opv_pick rfl rfl rfl) rfl ?_
    refine Q_v (opv_move rfl) rfl ?_
    refine Q_gon rfl rfl rfl ?_
    refine Q_v (opv_move rfl) rfl ?_
    refine Q_gon rfl rfl rfl ?_
    refine Q_v (opv_move rfl) rfl ?_
    refine Q_gon rfl rfl rfl ?_
    first
      | refine Q_v (opv_indexAddr rfl rfl (by omega)) rfl ?_
      | refine Q_v (opv_indexAddrA rfl rfl (by omega)) rfl ?_
    refine Q_gon rfl rfl rfl ?_
    first
      | refine Q_v (opv_fieldAddr0 rfl) rfl ?_
      | refine Q_v (opv_fieldAddr rfl) rfl ?_
    refine Q_gon rfl rfl rfl ?_
    refine Q_v (opv_load rfl (Rd.of_take (S := R1) (hR.rd b o rfl i x 5 _ hx rfl))) rfl ?_
    refine Q_gon rfl rfl rfl ?_
    refine Q_v (opv_move rfl) rfl ?_
    refine Q_gon rfl rfl rfl ?_
    refine Q_v (opv_indexAddr rfl rfl (by omega)) rfl ?_
    refine Q_gon rfl rfl rfl ?_
    first
      | refine Q_v (opv_fieldAddr0 rfl) rfl ?_
      | refine Q_v (opv_fieldAddr rfl) rfl ?_
    refine Q_gon rfl rfl rfl ?_
    refine Q_v (opv_load rfl (Rd.of_take (S := R1) (hR.rd b o rfl 0 x0 5 _ hx0 rfl))) rfl ?_
    refine Q_gon rfl rfl rfl ?_
    first
      | refine Q_v ((opv_neqS rfl rfl).bool_f (fun n => n (by rw [heq.2.2.2.1.1, heq.2.2.2.1.2.1, heq.2.2.2.1.2.2.1, heq.2.2.2.1.2.2.2]))) rfl ?_
      | refine Q_v (opv_neqS rfl rfl) rfl ?_
    first
      | refine Q_v (opv_pick_tt rfl rfl) rfl ?_
      | refine Q_v (opv_pick_ff rfl rfl) rfl ?_
      | refine Q_v (opv_pick rfl rfl rfl) rfl ?_
    refine Q_v (opv_move rfl) rfl ?_
    refine Q_gon rfl rfl rfl ?_
    refine Q_v (opv_move rfl) rfl ?_
    refine Q_gon rfl rfl rfl ?_
    refine Q_v (opv_move rfl) rfl ?_
    refine Q_gon rfl rfl rfl ?_
    first
      | refine Q_v (opv_indexAddr rfl rfl (by omega)) rfl ?_
      | refine Q_v (opv_indexAddrA rfl rfl (by omega)) rfl ?_
    refine Q_gon rfl rfl rfl ?_
    first
      | refine Q_v (opv_fieldAddr0 rfl) rfl ?_
      | refine Q_v (opv_fieldAddr rfl) rfl ?_
    refine Q_gon rfl rfl rfl ?_
    refine Q_v (opv_load rfl (Rd.of_take (S := R1) (hR.rd b o rfl i x 6 _ hx rfl))) rfl ?_
    refine Q_gon rfl rfl rfl ?_
    refine Q_v (opv_move rfl) rfl ?_
    refine Q_gon rfl rfl rfl ?_
    refine Q_v (opv_indexAddr rfl rfl (by omega)) rfl ?_
    refine Q_gon rfl rfl rfl ?_
    first
      | refine Q_v (opv_fieldAddr0 rfl) rfl ?_
      | refine Q_v (opv_fieldAddr rfl) rfl ?_
    refine Q_gon rfl rfl rfl ?_
    refine Q_v (opv_load rfl (Rd.of_take (S := R1) (hR.rd b o rfl 0 x0 6 _ hx0 rfl))) rfl ?_
    refine Q_gon rfl rfl rfl ?_
    first
      | refine Q_v ((opv_neqS rfl rfl).bool_f (fun n => n (by rw [heq.2.2.2.2.1, heq.2.2.2.2.2.1, heq.2.2.2.2.2.2.1, heq.2.2.2.2.2.2.2]))) rfl ?_
      | refine Q_v (opv_neqS rfl rfl) rfl ?_
    first
      | refine Q_v (opv_pick_tt rfl rfl) rfl ?_
      | refine Q_v (opv_pick_ff rfl rfl) rfl ?_
      | refine Q_v (opv_pick rfl rfl rfl) rfl ?_
    refine QL_nil ?_
    refine K_then ?_
    refine J_cond_false rfl ?_
    refine J_skip ?_
    refine K_block ?_
    refine K_then ?_
    refine J_region ?_
    refine L_v (opv_move rfl) rfl ?_
    first
      | refine L_v (opv_add64 rfl rfl (by omega)) rfl ?_
      | refine L_v (opv_addS rfl rfl (by omega)) rfl ?_
      | refine L_v (opv_add rfl rfl) rfl ?_
    refine L_v (opv_assign rfl) rfl ?_
    refine L_nil ?_
    exact K_loop (i + 1) (odd_next hi hx heq) (by omega) ⟨rfl, rfl, rfl, trivial⟩ (Ent.refl _)
  · refine J_seq ?_
    refine J_seq ?_
    refine J_region ?_
    refine L_v (opv_move rfl) rfl ?_
    refine L_v (opv_move rfl) rfl ?_
    first
      | refine L_v (opv_lenL rfl) rfl ?_
      | refine L_v (opv_lenS rfl) rfl ?_
    refine L_v ((opv_lss rfl rfl).bool_t (by omega)) rfl ?_
    refine L_nil ?_
    refine K_then ?_
    refine J_cond_true rfl ?_
    refine J_skip ?_
    refine K_then ?_
    refine J_seq ?_
    refine J_block ?_
    refine J_seq ?_
    refine J_quiet Try.mixed (by kernel_rfl) ?_
    refine Q_v (opv_move rfl) rfl ?_
    refine Q_v (opv_move rfl) rfl ?_
    first
      | refine Q_v (opv_indexAddr rfl rfl (by omega)) rfl ?_
      | refine Q_v (opv_indexAddrA rfl rfl (by omega)) rfl ?_
    first
      | refine Q_v (opv_fieldAddr0 rfl) rfl ?_
      | refine Q_v (opv_fieldAddr rfl) rfl ?_
    refine Q_v (opv_load rfl (Rd.of_take (S := R1) (hR.rd b o rfl i x 0 _ hx rfl))) rfl ?_
    refine Q_v (opv_move rfl) rfl ?_
    refine Q_v (opv_indexAddr rfl rfl (by omega)) rfl ?_
    first
      | refine Q_v (opv_fieldAddr0 rfl) rfl ?_
      | refine Q_v (opv_fieldAddr rfl) rfl ?_
    refine Q_v (opv_load rfl (Rd.of_take (S := R1) (hR.rd b o rfl 0 x0 0 _ hx0 rfl))) rfl ?_
    first
      | refine Q_v ((opv_neq rfl rfl).bool_f (fun n => n heq.1)) rfl ?_
      | refine Q_v (opv_neq rfl rfl) rfl ?_
    refine Q_v (opv_move rfl) rfl ?_
    refine Q_gf rfl rfl (fun h1 => ?_) (fun h1 => ?_) (fun _ h => by cases h; rfl)
    · refine Q_v (opv_move rfl) rfl ?_
      refine Q_gf_on h1 rfl rfl ?_
      refine Q_v (opv_move rfl) rfl ?_
      refine Q_gf_on h1 rfl rfl ?_
      first
        | refine Q_v (opv_indexAddr rfl rfl (by omega)) rfl ?_
        | refine Q_v (opv_indexAddrA rfl rfl (by omega)) rfl ?_
      refine Q_gf_on h1 rfl rfl ?_
      first
        | refine Q_v (opv_fieldAddr0 rfl) rfl ?_
        | refine Q_v (opv_fieldAddr rfl) rfl ?_
      refine Q_gf_on h1 rfl rfl ?_
      refine Q_v (opv_load rfl (Rd.of_take (S := R1) (hR.rd b o rfl i x 3 _ hx rfl))) rfl ?_
      refine Q_gf_on h1 rfl rfl ?_
      refine Q_v (opv_move rfl) rfl ?_
      refine Q_gf_on h1 rfl rfl ?_
      refine Q_v (opv_indexAddr rfl rfl (by omega)) rfl ?_
      refine Q_gf_on h1 rfl rfl ?_
      first
        | refine Q_v (opv_fieldAddr0 rfl) rfl ?_
        | refine Q_v (opv_fieldAddr rfl) rfl ?_
      refine Q_gf_on h1 rfl rfl ?_
      refine Q_v (opv_load rfl (Rd.of_take (S := R1) (hR.rd b o rfl 0 x0 3 _ hx0 rfl))) rfl ?_
      refine Q_gf_on h1 rfl rfl ?_
      first
        | refine Q_v ((opv_neq rfl rfl).bool_f (fun n => n heq.2.1)) rfl ?_
        | refine Q_v (opv_neq rfl rfl) rfl ?_
      refine Q_v (opv_pick_f rfl h1 rfl) rfl ?_
      refine Q_v (opv_move rfl) rfl ?_
      refine Q_gf rfl rfl (fun h2 => ?_) (fun h2 => ?_) (fun _ h => by cases h; rfl)
      · refine Q_v (opv_move rfl) rfl ?_
        refine Q_gf_on h2 rfl rfl ?_
        refine Q_v (opv_move rfl) rfl ?_
        refine Q_gf_on h2 rfl rfl ?_
        first
          | refine Q_v (opv_indexAddr rfl rfl (by omega)) rfl ?_
          | refine Q_v (opv_indexAddrA rfl rfl (by omega)) rfl ?_
        refine Q_gf_on h2 rfl rfl ?_
        first
          | refine Q_v (opv_fieldAddr0 rfl) rfl ?_
          | refine Q_v (opv_fieldAddr rfl) rfl ?_
        refine Q_gf_on h2 rfl rfl ?_
        refine Q_v (opv_load rfl (Rd.of_take (S := R1) (hR.rd b o rfl i x 4 _ hx rfl))) rfl ?_
        refine Q_gf_on h2 rfl rfl ?_
        refine Q_v (opv_move rfl) rfl ?_
        refine Q_gf_on h2 rfl rfl ?_
        refine Q_v (opv_indexAddr rfl rfl (by omega)) rfl ?_
        refine Q_gf_on h2 rfl rfl ?_
        first
          | refine Q_v (opv_fieldAddr0 rfl) rfl ?_
          | refine Q_v (opv_fieldAddr rfl) rfl ?_
        refine Q_gf_on h2 rfl rfl ?_
        refine Q_v (opv_load rfl (Rd.of_take (S := R1) (hR.rd b o rfl 0 x0 4 _ hx0 rfl))) rfl ?_
        refine Q_gf_on h2 rfl rfl ?_
        first
          | refine Q_v ((opv_neq rfl rfl).bool_f (fun n => n heq.2.2.1)) rfl ?_
          | refine Q_v (opv_neq rfl rfl) rfl ?_
        refine Q_v (opv_pick_f rfl h2 rfl) rfl ?_
        refine Q_v (opv_move rfl) rfl ?_
        refine Q_gf rfl rfl (fun h3 => ?_) (fun h3 => ?_) (fun _ h => by cases h; rfl)
        · refine Q_v (opv_move rfl) rfl ?_
          refine Q_gf_on h3 rfl rfl ?_
          refine Q_v (opv_move rfl) rfl ?_
          refine Q_gf_on h3 rfl rfl ?_
          first
            | refine Q_v (opv_indexAddr rfl rfl (by omega)) rfl ?_
            | refine Q_v (opv_indexAddrA rfl rfl (by omega)) rfl ?_
          refine Q_gf_on h3 rfl rfl ?_
          first
            | refine Q_v (opv_fieldAddr0 rfl) rfl ?_
            | refine Q_v (opv_fieldAddr rfl) rfl ?_
          refine Q_gf_on h3 rfl rfl ?_
          refine Q_v (opv_load rfl (Rd.of_take (S := R1) (hR.rd b o rfl i x 5 _ hx rfl))) rfl ?_
          refine Q_gf_on h3 rfl rfl ?_
          refine Q_v (opv_move rfl) rfl ?_
          refine Q_gf_on h3 rfl rfl ?_
          refine Q_v (opv_indexAddr rfl rfl (by omega)) rfl ?_
          refine Q_gf_on h3 rfl rfl ?_
          first
            | refine Q_v (opv_fieldAddr0 rfl) rfl ?_
            | refine Q_v (opv_fieldAddr rfl) rfl ?_
          refine Q_gf_on h3 rfl rfl ?_
          refine Q_v (opv_load rfl (Rd.of_take (S := R1) (hR.rd b o rfl 0 x0 5 _ hx0 rfl))) rfl ?_
          refine Q_gf_on h3 rfl rfl ?_
          first
            | refine Q_v ((opv_neqS rfl rfl).bool_f (fun n => n (by rw [heq.2.2.2.1.1, heq.2.2.2.1.2.1, heq.2.2.2.1.2.2.1, heq.2.2.2.1.2.2.2]))) rfl ?_
            | refine Q_v (opv_neqS rfl rfl) rfl ?_
          refine Q_v (opv_pick_f rfl h3 rfl) rfl ?_
          refine Q_v (opv_move rfl) rfl ?_
          refine Q_gf rfl rfl (fun h4 => ?_) (fun h4 => ?_) (fun _ h => by cases h; rfl)
          · refine Q_v (opv_move rfl) rfl ?_
            refine Q_gf_on h4 rfl rfl ?_
            refine Q_v (opv_move rfl) rfl ?_
            refine Q_gf_on h4 rfl rfl ?_
            first
              | refine Q_v (opv_indexAddr rfl rfl (by omega)) rfl ?_
              | refine Q_v (opv_indexAddrA rfl rfl (by omega)) rfl ?_
            refine Q_gf_on h4 rfl rfl ?_
            first
              | refine Q_v (opv_fieldAddr0 rfl) rfl ?_
              | refine Q_v (opv_fieldAddr rfl) rfl ?_
            refine Q_gf_on h4 rfl rfl ?_
            refine Q_v (opv_load rfl (Rd.of_take (S := R1) (hR.rd b o rfl i x 6 _ hx rfl))) rfl ?_
            refine Q_gf_on h4 rfl rfl ?_
            refine Q_v (opv_move rfl) rfl ?_
            refine Q_gf_on h4 rfl rfl ?_
            refine Q_v (opv_indexAddr rfl rfl (by omega)) rfl ?_
            refine Q_gf_on h4 rfl rfl ?_
            first
              | refine Q_v (opv_fieldAddr0 rfl) rfl ?_
              | refine Q_v (opv_fieldAddr rfl) rfl ?_
            refine Q_gf_on h4 rfl rfl ?_
            refine Q_v (opv_load rfl (Rd.of_take (S := R1) (hR.rd b o rfl 0 x0 6 _ hx0 rfl))) rfl ?_
            refine Q_gf_on h4 rfl rfl ?_
            first
              | refine Q_v ((opv_neqS rfl rfl).bool_f (fun n => n (by rw [heq.2.2.2.2.1, heq.2.2.2.2.2.1, heq.2.2.2.2.2.2.1, heq.2.2.2.2.2.2.2]))) rfl ?_
              | refine Q_v (opv_neqS rfl rfl) rfl ?_
            refine Q_v (opv_pick_f rfl h4 rfl) rfl ?_
            refine QL_nil ?_
            refine K_then ?_
            refine J_cond rfl (fun h5 => ?_) (fun h5 => absurd ⟨by omega, by omega, by omega, byt_s okx ok0 (Classical.not_not.1 (by assumption : ¬ bytesL [x.s0, x.s1, x.s2, x.s3] ≠ bytesL [x0.s0, x0.s1, x0.s2, x0.s3])), byt_d okx ok0 (Classical.not_not.1 h5)⟩ hne)
            refine J_seq ?_
            refine J_region ?_
            refine L_v (opv_build rfl) rfl ?_
            refine L_x rfl (opx_store rfl rfl rfl (by simp [Value.oneCell'])) (fun _ _ => ?_)
            refine L_v (opv_assign rfl) rfl ?_
            refine L_nil ?_
            refine K_then ?_
            refine J_ret ?_
            refine K_block_ret ?_
            refine K_then_ret ?_
            refine K_then_ret ?_
            refine K_block_ret ?_
            refine K_then_ret ?_
            have e := join_odd hx0 h
            exact K_ret2c rfl rfl rfl rfl () trivial (by rw [rjV_bad e (by first | decide | assumption), e]) Ent.take
          · refine Q_gf_off h4 rfl rfl ?_ (fun _ h => by cases h; rfl)
            refine Q_gf_off h4 rfl rfl ?_ (fun _ h => by cases h; rfl)
            refine Q_gf_off h4 rfl rfl ?_ (fun _ h => by cases h; rfl)
            refine Q_gf_off h4 rfl rfl ?_ (fun _ h => by cases h; rfl)
            refine Q_gf_off h4 rfl rfl ?_ (fun _ h => by cases h; rfl)
            refine Q_gf_off h4 rfl rfl ?_ (fun _ h => by cases h; rfl)
            refine Q_gf_off h4 rfl rfl ?_ (fun _ h => by cases h; rfl)
            refine Q_gf_off h4 rfl rfl ?_ (fun _ h => by cases h; rfl)
            refine Q_gf_off h4 rfl rfl ?_ (fun _ h => by cases h; rfl)
            refine Q_v (opv_pick_t rfl h4 rfl) rfl ?_
            refine QL_nil ?_
            refine K_then ?_
            refine J_cond_true rfl ?_
            refine J_seq ?_
            refine J_region ?_
            refine L_v (opv_build rfl) rfl ?_
            refine L_x rfl (opx_store rfl rfl rfl (by simp [Value.oneCell'])) (fun _ _ => ?_)
            refine L_v (opv_assign rfl) rfl ?_
            refine L_nil ?_
            refine K_then ?_
            refine J_ret ?_
            refine K_block_ret ?_
            refine K_then_ret ?_
            refine K_then_ret ?_
            refine K_block_ret ?_
            refine K_then_ret ?_
            have e := join_odd hx0 h
            exact K_ret2c rfl rfl rfl rfl () trivial (by rw [rjV_bad e (by first | decide | assumption), e]) Ent.take
        · refine Q_gf_off h3 rfl rfl ?_ (fun _ h => by cases h; rfl)
          refine Q_gf_off h3 rfl rfl ?_ (fun _ h => by cases h; rfl)
          refine Q_gf_off h3 rfl rfl ?_ (fun _ h => by cases h; rfl)
          refine Q_gf_off h3 rfl rfl ?_ (fun _ h => by cases h; rfl)
          refine Q_gf_off h3 rfl rfl ?_ (fun _ h => by cases h; rfl)
          refine Q_gf_off h3 rfl rfl ?_ (fun _ h => by cases h; rfl)
          refine Q_gf_off h3 rfl rfl ?_ (fun _ h => by cases h; rfl)
          refine Q_gf_off h3 rfl rfl ?_ (fun _ h => by cases h; rfl)
          refine Q_gf_off h3 rfl rfl ?_ (fun _ h => by cases h; rfl)
          refine Q_v (opv_pick_t rfl h3 rfl) rfl ?_
          refine Q_v (opv_move rfl) rfl ?_
          refine Q_gskip rfl rfl rfl ?_ (fun _ h => by cases h; rfl)
          refine Q_gskip rfl rfl rfl ?_ (fun _ h => by cases h; rfl)
          refine Q_gskip rfl rfl rfl ?_ (fun _ h => by cases h; rfl)
          refine Q_gskip rfl rfl rfl ?_ (fun _ h => by cases h; rfl)
          refine Q_gskip rfl rfl rfl ?_ (fun _ h => by cases h; rfl)
          refine Q_gskip rfl rfl rfl ?_ (fun _ h => by cases h; rfl)
          refine Q_gskip rfl rfl rfl ?_ (fun _ h => by cases h; rfl)
          refine Q_gskip rfl rfl rfl ?_ (fun _ h => by cases h; rfl)
          refine Q_gskip rfl rfl rfl ?_ (fun _ h => by cases h; rfl)
          refine Q_gskip rfl rfl rfl ?_ (fun _ h => by cases h; rfl)
          first
            | refine Q_v (opv_pick_tt rfl rfl) rfl ?_
            | refine Q_v (opv_pick_ff rfl rfl) rfl ?_
            | refine Q_v (opv_pick rfl rfl rfl) rfl ?_
          refine QL_nil ?_
          refine K_then ?_
          refine J_cond_true rfl ?_
          refine J_seq ?_
          refine J_region ?_
          refine L_v (opv_build rfl) rfl ?_
          refine L_x rfl (opx_store rfl rfl rfl (by simp [Value.oneCell'])) (fun _ _ => ?_)
          refine L_v (opv_assign rfl) rfl ?_
          refine L_nil ?_
          refine K_then ?_
          refine J_ret ?_
          refine K_block_ret ?_
          refine K_then_ret ?_
          refine K_then_ret ?_
          refine K_block_ret ?_
          refine K_then_ret ?_
          have e := join_odd hx0 h
          exact K_ret2c rfl rfl rfl rfl () trivial (by rw [rjV_bad e (by first | decide | assumption), e]) Ent.take
      · refine Q_gf_off h2 rfl rfl ?_ (fun _ h => by cases h; rfl)
        refine Q_gf_off h2 rfl rfl ?_ (fun _ h => by cases h; rfl)
        refine Q_gf_off h2 rfl rfl ?_ (fun _ h => by cases h; rfl)
        refine Q_gf_off h2 rfl rfl ?_ (fun _ h => by cases h; rfl)
        refine Q_gf_off h2 rfl rfl ?_ (fun _ h => by cases h; rfl)
        refine Q_gf_off h2 rfl rfl ?_ (fun _ h => by cases h; rfl)
        refine Q_gf_off h2 rfl rfl ?_ (fun _ h => by cases h; rfl)
        refine Q_gf_off h2 rfl rfl ?_ (fun _ h => by cases h; rfl)
        refine Q_gf_off h2 rfl rfl ?_ (fun _ h => by cases h; rfl)
        refine Q_v (opv_pick_t rfl h2 rfl) rfl ?_
        refine Q_v (opv_move rfl) rfl ?_
        refine Q_gskip rfl rfl rfl ?_ (fun _ h => by cases h; rfl)
        refine Q_gskip rfl rfl rfl ?_ (fun _ h => by cases h; rfl)
        refine Q_gskip rfl rfl rfl ?_ (fun _ h => by cases h; rfl)
        refine Q_gskip rfl rfl rfl ?_ (fun _ h => by cases h; rfl)
        refine Q_gskip rfl rfl rfl ?_ (fun _ h => by cases h; rfl)
        refine Q_gskip rfl rfl rfl ?_ (fun _ h => by cases h; rfl)
        refine Q_gskip rfl rfl rfl ?_ (fun _ h => by cases h; rfl)
        refine Q_gskip rfl rfl rfl ?_ (fun _ h => by cases h; rfl)
        refine Q_gskip rfl rfl rfl ?_ (fun _ h => by cases h; rfl)
        refine Q_gskip rfl rfl rfl ?_ (fun _ h => by cases h; rfl)
        first
          | refine Q_v (opv_pick_tt rfl rfl) rfl ?_
          | refine Q_v (opv_pick_ff rfl rfl) rfl ?_
          | refine Q_v (opv_pick rfl rfl rfl) rfl ?_
        refine Q_v (opv_move rfl) rfl ?_
        refine Q_gskip rfl rfl rfl ?_ (fun _ h => by cases h; rfl)
        refine Q_gskip rfl rfl rfl ?_ (fun _ h => by cases h; rfl)
        refine Q_gskip rfl rfl rfl ?_ (fun _ h => by cases h; rfl)
        refine Q_gskip rfl rfl rfl ?_ (fun _ h => by cases h; rfl)
        refine Q_gskip rfl rfl rfl ?_ (fun _ h => by cases h; rfl)
        refine Q_gskip rfl rfl rfl ?_ (fun _ h => by cases h; rfl)
        refine Q_gskip rfl rfl rfl ?_ (fun _ h => by cases h; rfl)
        refine Q_gskip rfl rfl rfl ?_ (fun _ h => by cases h; rfl)
        refine Q_gskip rfl rfl rfl ?_ (fun _ h => by cases h; rfl)
        refine Q_gskip rfl rfl rfl ?_ (fun _ h => by cases h; rfl)
        first
          | refine Q_v (opv_pick_tt rfl rfl) rfl ?_
          | refine Q_v (opv_pick_ff rfl rfl) rfl ?_
          | refine Q_v (opv_pick rfl rfl rfl) rfl ?_
        refine QL_nil ?_
        refine K_then ?_
        refine J_cond_true rfl ?_
        refine J_seq ?_
        refine J_region ?_
        refine L_v (opv_build rfl) rfl ?_
        refine L_x rfl (opx_store rfl rfl rfl (by simp [Value.oneCell'])) (fun _ _ => ?_)
        refine L_v (opv_assign rfl) rfl ?_
        refine L_nil ?_
        refine K_then ?_
        refine J_ret ?_
        refine K_block_ret ?_
        refine K_then_ret ?_
        refine K_then_ret ?_
        refine K_block_ret ?_
        refine K_then_ret ?_
        have e := join_odd hx0 h
        exact K_ret2c rfl rfl rfl rfl () trivial (by rw [rjV_bad e (by first | decide | assumption), e]) Ent.take
    · refine Q_gf_off h1 rfl rfl ?_ (fun _ h => by cases h; rfl)
      refine Q_gf_off h1 rfl rfl ?_ (fun _ h => by cases h; rfl)
      refine Q_gf_off h1 rfl rfl ?_ (fun _ h => by cases h; rfl)
      refine Q_gf_off h1 rfl rfl ?_ (fun _ h => by cases h; rfl)
      refine Q_gf_off h1 rfl rfl ?_ (fun _ h => by cases h; rfl)
      refine Q_gf_off h1 rfl rfl ?_ (fun _ h => by cases h; rfl)
      refine Q_gf_off h1 rfl rfl ?_ (fun _ h => by cases h; rfl)
      refine Q_gf_off h1 rfl rfl ?_ (fun _ h => by cases h; rfl)
      refine Q_gf_off h1 rfl rfl ?_ (fun _ h => by cases h; rfl)
      refine Q_v (opv_pick_t rfl h1 rfl) rfl ?_
      refine Q_v (opv_move rfl) rfl ?_
      refine Q_gskip rfl rfl rfl ?_ (fun _ h => by cases h; rfl)
      refine Q_gskip rfl rfl rfl ?_ (fun _ h => by cases h; rfl)
      refine Q_gskip rfl rfl rfl ?_ (fun _ h => by cases h; rfl)
      refine Q_gskip rfl rfl rfl ?_ (fun _ h => by cases h; rfl)
      refine Q_gskip rfl rfl rfl ?_ (fun _ h => by cases h; rfl)
      refine Q_gskip rfl rfl rfl ?_ (fun _ h => by cases h; rfl)
      refine Q_gskip rfl rfl rfl ?_ (fun _ h => by cases h; rfl)
      refine Q_gskip rfl rfl rfl ?_ (fun _ h => by cases h; rfl)
      refine Q_gskip rfl rfl rfl ?_ (fun _ h => by cases h; rfl)
      refine Q_gskip rfl rfl rfl ?_ (fun _ h => by cases h; rfl)
      first
        | refine Q_v (opv_pick_tt rfl rfl) rfl ?_
        | refine Q_v (opv_pick_ff rfl rfl) rfl ?_
        | refine Q_v (opv_pick rfl rfl rfl) rfl ?_
      refine Q_v (opv_move rfl) rfl ?_
      refine Q_gskip rfl rfl rfl ?_ (fun _ h => by cases h; rfl)
      refine Q_gskip rfl rfl rfl ?_ (fun _ h => by cases h; rfl)
      refine Q_gskip rfl rfl rfl ?_ (fun _ h => by cases h; rfl)
      refine Q_gskip rfl rfl rfl ?_ (fun _ h => by cases h; rfl)
      refine Q_gskip rfl rfl rfl ?_ (fun _ h => by cases h; rfl)
      refine Q_gskip rfl rfl rfl ?_ (fun _ h => by cases h; rfl)
      refine Q_gskip rfl rfl rfl ?_ (fun _ h => by cases h; rfl)
      refine Q_gskip rfl rfl rfl ?_ (fun _ h => by cases h; rfl)
      refine Q_gskip rfl rfl rfl ?_ (fun _ h => by cases h; rfl)
      refine Q_gskip rfl rfl rfl ?_ (fun _ h => by cases h; rfl)
      first
        | refine Q_v (opv_pick_tt rfl rfl) rfl ?_
        | refine Q_v (opv_pick_ff rfl rfl) rfl ?_
        | refine Q_v (opv_pick rfl rfl rfl) rfl ?_
      refine Q_v (opv_move rfl) rfl ?_
      refine Q_gskip rfl rfl rfl ?_ (fun _ h => by cases h; rfl)
      refine Q_gskip rfl rfl rfl ?_ (fun _ h => by cases h; rfl)
      refine Q_gskip rfl rfl rfl ?_ (fun _ h => by cases h; rfl)
      refine Q_gskip rfl rfl rfl ?_ (fun _ h => by cases h; rfl)
      refine Q_gskip rfl rfl rfl ?_ (fun _ h => by cases h; rfl)
      refine Q_gskip rfl rfl rfl ?_ (fun _ h => by cases h; rfl)
      refine Q_gskip rfl rfl rfl ?_ (fun _ h => by cases h; rfl)
      refine Q_gskip rfl rfl rfl ?_ (fun _ h => by cases h; rfl)
      refine Q_gskip rfl rfl rfl ?_ (fun _ h => by cases h; rfl)
      refine Q_gskip rfl rfl rfl ?_ (fun _ h => by cases h; rfl)
      first
        | refine Q_v (opv_pick_tt rfl rfl) rfl ?_
        | refine Q_v (opv_pick_ff rfl rfl) rfl ?_
        | refine Q_v (opv_pick rfl rfl rfl) rfl ?_
      refine QL_nil ?_
      refine K_then ?_
      refine J_cond_true rfl ?_
      refine J_seq ?_
      refine J_region ?_
      refine L_v (opv_build rfl) rfl ?_
      refine L_x rfl (opx_store rfl rfl rfl (by simp [Value.oneCell'])) (fun _ _ => ?_)
      refine L_v (opv_assign rfl) rfl ?_
      refine L_nil ?_
      refine K_then ?_
      refine J_ret ?_
      refine K_block_ret ?_
      refine K_then_ret ?_
      refine K_then_ret ?_
      refine K_block_ret ?_
      refine K_then_ret ?_
      have e := join_odd hx0 h
      exact K_ret2c rfl rfl rfl rfl () trivial (by rw [rjV_bad e (by first | decide | assumption), e]) Ent.take

set_option maxHeartbeats 1000000 in
theorem RJoin_rest (R1 : HProp) (A : Option Addr) (c : Nat) (L : List Pk) (hR : RdS R1 encR 8 A L) (hn : L.length ≤ 50) (hz : ∀ x ∈ L, x.data.size ≤ 2000) (ok : ∀ x ∈ L, okA x) (x0 : Pk) (hx0 : L[0]? = some x0) (h : ¬ odd L x0 < L.length) : FSpec Try.prog 21 #[.slice A L.length c] (R1) (fun _ : Unit => True) (fun _ => .tuple #[.agg (rjV L).toArray, .int .i64 (joinC L).2]) (fun _ => R1) := by
  have hlen := glt hx0
  obtain ⟨b, o, rfl⟩ := hR.nonnil 0 hlen
  have ok0 := ok x0 (List.mem_of_getElem? hx0)
  refine FSpec.enter' Try.func21 rfl Try.ntmps21 rfl fun σ F => ?_
  refine J_seq ?_
  refine J_region ?_
  refine L_x rfl (opx_alloc rfl) (fun b2 _ => ?_)
  refine L_v (opv_assign rfl) rfl ?_
  refine L_nil ?_
  refine K_then ?_
  refine J_seq ?_
  refine J_seq ?_
  refine J_region ?_
  refine L_v (opv_move rfl) rfl ?_
  first
    | refine L_v (opv_lenL rfl) rfl ?_
    | refine L_v (opv_lenS rfl) rfl ?_
  refine L_v ((opv_eql rfl rfl).bool_f (by omega)) rfl ?_
  refine L_nil ?_
  refine K_then ?_
  refine J_cond_false rfl ?_
  refine J_skip ?_
  refine K_then ?_
  refine J_seq ?_
  refine J_seq ?_
  refine J_region ?_
  refine L_v (opv_assign rfl) rfl ?_
  refine L_nil ?_
  refine K_then ?_
  refine J_block ?_
  refine J_loop (X := Nat) (fun i => [(0, .slice (some (ad b o)) L.length c), (2, .pointer (some (ad b2 0))), (4, .int .i64 i)]) (fun i => (sep (cel b2 [.int .i64 0, .bool false, .int .i64 0, .int .i64 0, .int .i64 0, .string ⟨#[]⟩, .string ⟨#[]⟩, .string ⟨#[]⟩] 36) (sep (R1) (F)))) (fun i => i ≤ L.length) (fun i => L.length - i) (0) (Nat.zero_le _) ⟨rfl, rfl, rfl, trivial⟩ Ent.take (fun i hi => ?_)
  rcases (show i = L.length ∨ i < L.length by omega) with hie | hil
  · refine J_seq ?_
    refine J_seq ?_
    refine J_region ?_
    refine L_v (opv_move rfl) rfl ?_
    refine L_v (opv_move rfl) rfl ?_
    first
      | refine L_v (opv_lenL rfl) rfl ?_
      | refine L_v (opv_lenS rfl) rfl ?_
    first
      | refine L_v ((opv_lss rfl rfl).bool_t (by omega)) rfl ?_
      | refine L_v ((opv_lss rfl rfl).bool_f (by omega)) rfl ?_
    refine L_nil ?_
    refine K_then ?_
    refine J_cond_false rfl ?_
    refine J_exit ?_
    refine K_then_exit ?_
    refine K_then_exit ?_
    refine K_block_here ?_
    refine K_then ?_
    refine J_seq ?_
    refine J_region ?_
    refine L_v (opv_assign rfl) rfl ?_
    refine L_nil ?_
    refine K_then ?_
    refine J_seq ?_
    refine J_seq ?_
    refine J_region ?_
    refine L_v (opv_assign rfl) rfl ?_
    refine L_nil ?_
    refine K_then ?_
    refine J_block ?_
    refine J_loop (X := Nat × ByteArray) (fun z => [(0, .slice (some (ad b o)) L.length c), (2, .pointer (some (ad b2 0))), (5, .string z.2), (6, .int .i64 z.1)]) (fun z => (sep (cel b2 [.int .i64 0, .bool false, .int .i64 0, .int .i64 0, .int .i64 0, .string ⟨#[]⟩, .string ⟨#[]⟩, .string ⟨#[]⟩] 36) (sep (R1) (F)))) (fun z => z.1 ≤ L.length ∧ jrun L ByteArray.empty = jrun (L.drop z.1) z.2 ∧ z.2.size ≤ z.1 * 2000) (fun z => L.length - z.1) ((0, ByteArray.empty)) ⟨Nat.zero_le _, rfl, Nat.zero_le _⟩ ⟨rfl, rfl, rfl, rfl, trivial⟩ (Ent.refl _) (fun z hz2 => ?_)
    obtain ⟨zk, zj, zs⟩ := hz2
    refine J_seq ?_
    refine J_seq ?_
    refine J_region ?_
    refine L_v (opv_move rfl) rfl ?_
    refine L_v (opv_move rfl) rfl ?_
    first
      | refine L_v (opv_lenL rfl) rfl ?_
      | refine L_v (opv_lenS rfl) rfl ?_
    refine L_v (opv_lss rfl rfl) rfl ?_
    refine L_nil ?_
    refine K_then ?_
    refine J_cond rfl (fun h1 => ?_) (fun h1 => ?_)
    · have hkl : z.1 < L.length := by omega
      obtain ⟨x, hx⟩ : ∃ x, L[z.1]? = some x := ⟨_, List.getElem?_eq_getElem hkl⟩
      have hxs := hz x (List.mem_of_getElem? hx)
      have hlast : (L.drop (z.1 + 1)).isEmpty = false ↔ z.1 + 1 < L.length := by rw [← last_x hkl, decide_eq_false_iff_not]; omega
      refine J_skip ?_
      refine K_then ?_
      refine J_seq ?_
      refine J_block ?_
      refine J_seq ?_
      refine J_seq ?_
      refine J_region ?_
      refine L_v (opv_move rfl) rfl ?_
      refine L_v (opv_move rfl) rfl ?_
      first
        | refine L_v (opv_indexAddr rfl rfl (by omega)) rfl ?_
        | refine L_v (opv_indexAddrA rfl rfl (by omega)) rfl ?_
      first
        | refine L_v (opv_fieldAddr0 rfl) rfl ?_
        | refine L_v (opv_fieldAddr rfl) rfl ?_
      refine L_v (opv_load rfl (Rd.of_take (S := R1) (hR.rd b o rfl z.1 x 2 _ hx rfl))) rfl ?_
      refine L_v (opv_lss rfl rfl) rfl ?_
      refine L_v (opv_move rfl) rfl ?_
      refine L_gf rfl rfl (fun h2 => ?_) (fun h2 => ?_) (fun _ h => by cases h; rfl)
      · refine L_v (opv_move rfl) rfl ?_
        refine L_gf_on h2 rfl rfl ?_
        refine L_v (opv_move rfl) rfl ?_
        refine L_gf_on h2 rfl rfl ?_
        first
          | refine L_v (opv_indexAddr rfl rfl (by omega)) rfl ?_
          | refine L_v (opv_indexAddrA rfl rfl (by omega)) rfl ?_
        refine L_gf_on h2 rfl rfl ?_
        first
          | refine L_v (opv_fieldAddr0 rfl) rfl ?_
          | refine L_v (opv_fieldAddr rfl) rfl ?_
        refine L_gf_on h2 rfl rfl ?_
        refine L_v (opv_load rfl (Rd.of_take (S := R1) (hR.rd b o rfl z.1 x 2 _ hx rfl))) rfl ?_
        refine L_gf_on h2 rfl rfl ?_
        refine L_v (opv_gtr rfl rfl) rfl ?_
        refine L_v (opv_pick_f rfl h2 rfl) rfl ?_
        refine L_v (opv_move rfl) rfl ?_
        refine L_gf rfl rfl (fun h3 => ?_) (fun h3 => ?_) (fun _ h => by cases h; rfl)
        · refine L_v (opv_move rfl) rfl ?_
          refine L_gf_on h3 rfl rfl ?_
          refine L_v (opv_move rfl) rfl ?_
          refine L_gf_on h3 rfl rfl ?_
          first
            | refine L_v (opv_indexAddr rfl rfl (by omega)) rfl ?_
            | refine L_v (opv_indexAddrA rfl rfl (by omega)) rfl ?_
          refine L_gf_on h3 rfl rfl ?_
          first
            | refine L_v (opv_fieldAddr0 rfl) rfl ?_
            | refine L_v (opv_fieldAddr rfl) rfl ?_
          refine L_gf_on h3 rfl rfl ?_
          refine L_v (opv_load rfl (Rd.of_take (S := R1) (hR.rd b o rfl z.1 x 2 _ hx rfl))) rfl ?_
          refine L_gf_on h3 rfl rfl ?_
          first
            | refine L_v (opv_mul64 rfl rfl (by omega)) rfl ?_
            | refine L_v (opv_mul rfl rfl) rfl ?_
          refine L_gf_on h3 rfl rfl ?_
          refine L_v (opv_move rfl) rfl ?_
          refine L_gf_on h3 rfl rfl ?_
          first
            | refine L_v (opv_lenL rfl) rfl ?_
            | refine L_v (opv_lenS rfl) rfl ?_
          refine L_gf_on h3 rfl rfl ?_
          first
            | refine L_v (opv_neq rfl rfl) rfl ?_
            | refine L_v (opv_neqS rfl rfl) rfl ?_
            | refine L_v (opv_neqNil rfl rfl) rfl ?_
            | refine L_v (opv_neqB rfl rfl) rfl ?_
          refine L_v (opv_pick_f rfl h3 rfl) rfl ?_
          refine L_nil ?_
          refine K_then ?_
          refine J_cond rfl (fun h4 => ?_) (fun h4 => ?_)
          · refine J_seq ?_
            refine J_region ?_
            refine L_v (opv_build rfl) rfl ?_
            refine L_x rfl (opx_store rfl rfl rfl (by simp [Value.oneCell'])) (fun _ _ => ?_)
            refine L_v (opv_assign rfl) rfl ?_
            refine L_nil ?_
            refine K_then ?_
            refine J_ret ?_
            refine K_then_ret ?_
            refine K_block_ret ?_
            refine K_then_ret ?_
            refine K_then_ret ?_
            refine K_block_ret ?_
            refine K_then_ret ?_
            have ef : fitC x z.2.size (L.drop (z.1 + 1)).isEmpty = 25 := fit_a (by omega)
            have e0 : jrun L ByteArray.empty = (25, z.2) := by rw [zj, drop_x hx, jrun_bad (by rw [ef]; decide), ef]
            have e : joinC L = (pkz, 25) := by rw [join_bad hx0 h (by rw [e0]; show (25 : Int) ≠ 0; decide), e0]
            exact K_ret2c rfl rfl rfl rfl () trivial (by rw [rjV_bad e (by first | decide | assumption), e]) Ent.take
          · refine J_skip ?_
            refine K_then ?_
            refine J_seq ?_
            refine J_seq ?_
            refine J_region ?_
            refine L_v (opv_move rfl) rfl ?_
            refine L_v (opv_move rfl) rfl ?_
            first
              | refine L_v (opv_indexAddr rfl rfl (by omega)) rfl ?_
              | refine L_v (opv_indexAddrA rfl rfl (by omega)) rfl ?_
            first
              | refine L_v (opv_fieldAddr0 rfl) rfl ?_
              | refine L_v (opv_fieldAddr rfl) rfl ?_
            refine L_v ((opv_load rfl (Rd.of_take (S := R1) (hR.rd b o rfl z.1 x 1 _ hx rfl))).as (v' := .bool (decide (x.more = true))) (by simp)) rfl ?_
            refine L_v (opv_move rfl) rfl ?_
            refine L_gt rfl rfl (fun h5 => ?_) (fun h5 => ?_) (fun _ h => by cases h; rfl)
            · refine L_v (opv_move rfl) rfl ?_
              refine L_gt_on h5 rfl rfl ?_
              refine L_v (opv_move rfl) rfl ?_
              refine L_gt_on h5 rfl rfl ?_
              first
                | refine L_v (opv_indexAddr rfl rfl (by omega)) rfl ?_
                | refine L_v (opv_indexAddrA rfl rfl (by omega)) rfl ?_
              refine L_gt_on h5 rfl rfl ?_
              first
                | refine L_v (opv_fieldAddr0 rfl) rfl ?_
                | refine L_v (opv_fieldAddr rfl) rfl ?_
              refine L_gt_on h5 rfl rfl ?_
              refine L_v (opv_load rfl (Rd.of_take (S := R1) (hR.rd b o rfl z.1 x 7 _ hx rfl))) rfl ?_
              refine L_gt_on h5 rfl rfl ?_
              refine L_v ((opv_eqlS rfl rfl).as (v' := .bool (decide (x.data.size = 0))) (congrArg Value.bool (decide_eq_decide.2 noby))) rfl ?_
              refine L_gt_on h5 rfl rfl ?_
              refine L_v (opv_move rfl) rfl ?_
              refine L_gf rfl rfl (fun h6 => ?_) (fun h6 => ?_) (fun _ h => by cases h; rfl)
              · refine L_v (opv_move rfl) rfl ?_
                refine L_gf_on h6 rfl rfl ?_
                refine L_v (opv_move rfl) rfl ?_
                refine L_gf_on h6 rfl rfl ?_
                first
                  | refine L_v (opv_indexAddr rfl rfl (by omega)) rfl ?_
                  | refine L_v (opv_indexAddrA rfl rfl (by omega)) rfl ?_
                refine L_gf_on h6 rfl rfl ?_
                first
                  | refine L_v (opv_fieldAddr0 rfl) rfl ?_
                  | refine L_v (opv_fieldAddr rfl) rfl ?_
                refine L_gf_on h6 rfl rfl ?_
                refine L_v (opv_load rfl (Rd.of_take (S := R1) (hR.rd b o rfl z.1 x 7 _ hx rfl))) rfl ?_
                refine L_gf_on h6 rfl rfl ?_
                first
                  | refine L_v (opv_lenL rfl) rfl ?_
                  | refine L_v (opv_lenS rfl) rfl ?_
                refine L_gf_on h6 rfl rfl ?_
                refine L_v ((opv_remP rfl rfl (by omega)).as (v' := .int .i64 ((x.data.size % 8 : Nat) : Int)) rfl) rfl ?_
                refine L_gf_on h6 rfl rfl ?_
                first
                  | refine L_v (opv_neq rfl rfl) rfl ?_
                  | refine L_v (opv_neqS rfl rfl) rfl ?_
                  | refine L_v (opv_neqNil rfl rfl) rfl ?_
                  | refine L_v (opv_neqB rfl rfl) rfl ?_
                refine L_gt_on h5 rfl rfl ?_
                refine L_v (opv_pick_f rfl h6 rfl) rfl ?_
                refine L_v (opv_pick_t rfl h5 rfl) rfl ?_
                refine L_nil ?_
                refine K_then ?_
                refine J_cond rfl (fun h7 => ?_) (fun h7 => ?_)
                · refine J_seq ?_
                  refine J_region ?_
                  refine L_v (opv_build rfl) rfl ?_
                  refine L_x rfl (opx_store rfl rfl rfl (by simp [Value.oneCell'])) (fun _ _ => ?_)
                  refine L_v (opv_assign rfl) rfl ?_
                  refine L_nil ?_
                  refine K_then ?_
                  refine J_ret ?_
                  refine K_then_ret ?_
                  refine K_block_ret ?_
                  refine K_then_ret ?_
                  refine K_then_ret ?_
                  refine K_block_ret ?_
                  refine K_then_ret ?_
                  have ef : fitC x z.2.size (L.drop (z.1 + 1)).isEmpty = 15 := fit_b (by omega) ⟨by assumption, by omega⟩
                  have e0 : jrun L ByteArray.empty = (15, z.2) := by rw [zj, drop_x hx, jrun_bad (by rw [ef]; decide), ef]
                  have e : joinC L = (pkz, 15) := by rw [join_bad hx0 h (by rw [e0]; show (15 : Int) ≠ 0; decide), e0]
                  exact K_ret2c rfl rfl rfl rfl () trivial (by rw [rjV_bad e (by first | decide | assumption), e]) Ent.take
                · refine J_skip ?_
                  refine K_then ?_
                  refine J_seq ?_
                  refine J_seq ?_
                  refine J_region ?_
                  refine L_v (opv_move rfl) rfl ?_
                  refine L_v (opv_move rfl) rfl ?_
                  first
                    | refine L_v (opv_indexAddr rfl rfl (by omega)) rfl ?_
                    | refine L_v (opv_indexAddrA rfl rfl (by omega)) rfl ?_
                  first
                    | refine L_v (opv_fieldAddr0 rfl) rfl ?_
                    | refine L_v (opv_fieldAddr rfl) rfl ?_
                  refine L_v ((opv_load rfl (Rd.of_take (S := R1) (hR.rd b o rfl z.1 x 1 _ hx rfl))).as (v' := .bool (decide (x.more = true))) (by simp)) rfl ?_
                  refine L_v ((opv_notD rfl).as (v' := .bool (decide (x.more = false))) (by simp)) rfl ?_
                  refine L_v (opv_move rfl) rfl ?_
                  refine L_gt rfl rfl (fun h8 => ?_) (fun h8 => ?_) (fun _ h => by cases h; rfl)
                  · refine L_v (opv_move rfl) rfl ?_
                    refine L_gt_on h8 rfl rfl ?_
                    first
                      | refine L_v (opv_add64 rfl rfl (by omega)) rfl ?_
                      | refine L_v (opv_addS rfl rfl (by omega)) rfl ?_
                      | refine L_v (opv_add rfl rfl) rfl ?_
                    refine L_gt_on h8 rfl rfl ?_
                    refine L_v (opv_move rfl) rfl ?_
                    refine L_gt_on h8 rfl rfl ?_
                    first
                      | refine L_v (opv_lenL rfl) rfl ?_
                      | refine L_v (opv_lenS rfl) rfl ?_
                    refine L_gt_on h8 rfl rfl ?_
                    refine L_v (opv_lss rfl rfl) rfl ?_
                    refine L_v (opv_pick_t rfl h8 rfl) rfl ?_
                    refine L_nil ?_
                    refine K_then ?_
                    refine J_cond rfl (fun h9 => ?_) (fun h9 => ?_)
                    · refine J_seq ?_
                      refine J_region ?_
                      refine L_v (opv_build rfl) rfl ?_
                      refine L_x rfl (opx_store rfl rfl rfl (by simp [Value.oneCell'])) (fun _ _ => ?_)
                      refine L_v (opv_assign rfl) rfl ?_
                      refine L_nil ?_
                      refine K_then ?_
                      refine J_ret ?_
                      refine K_then_ret ?_
                      refine K_block_ret ?_
                      refine K_then_ret ?_
                      refine K_then_ret ?_
                      refine K_block_ret ?_
                      refine K_then_ret ?_
                      have ef : fitC x z.2.size (L.drop (z.1 + 1)).isEmpty = 25 := fit_c (by omega) (by rintro ⟨g1, g2⟩; first | contradiction | omega | (simp_all; done)) ⟨by assumption, hlast.2 (by omega)⟩
                      have e0 : jrun L ByteArray.empty = (25, z.2) := by rw [zj, drop_x hx, jrun_bad (by rw [ef]; decide), ef]
                      have e : joinC L = (pkz, 25) := by rw [join_bad hx0 h (by rw [e0]; show (25 : Int) ≠ 0; decide), e0]
                      exact K_ret2c rfl rfl rfl rfl () trivial (by rw [rjV_bad e (by first | decide | assumption), e]) Ent.take
                    · refine J_skip ?_
                      refine K_then ?_
                      refine J_region ?_
                      refine L_v (opv_move rfl) rfl ?_
                      refine L_v (opv_move rfl) rfl ?_
                      refine L_v (opv_move rfl) rfl ?_
                      first
                        | refine L_v (opv_indexAddr rfl rfl (by omega)) rfl ?_
                        | refine L_v (opv_indexAddrA rfl rfl (by omega)) rfl ?_
                      first
                        | refine L_v (opv_fieldAddr0 rfl) rfl ?_
                        | refine L_v (opv_fieldAddr rfl) rfl ?_
                      refine L_v (opv_load rfl (Rd.of_take (S := R1) (hR.rd b o rfl z.1 x 7 _ hx rfl))) rfl ?_
                      refine L_v (opv_addS rfl rfl (by omega)) rfl ?_
                      refine L_v (opv_assign rfl) rfl ?_
                      refine L_nil ?_
                      refine K_block ?_
                      refine K_then ?_
                      refine J_region ?_
                      refine L_v (opv_move rfl) rfl ?_
                      first
                        | refine L_v (opv_add64 rfl rfl (by omega)) rfl ?_
                        | refine L_v (opv_addS rfl rfl (by omega)) rfl ?_
                        | refine L_v (opv_add rfl rfl) rfl ?_
                      refine L_v (opv_assign rfl) rfl ?_
                      refine L_nil ?_
                      have ef : fitC x z.2.size (L.drop (z.1 + 1)).isEmpty = 0 := fit_d (by omega) (by rintro ⟨g1, g2⟩; first | contradiction | omega | (simp_all; done)) (by rintro ⟨g1, g2⟩; first | contradiction | (have := hlast.1 g2; omega) | (simp_all; done))
                      exact K_loop ((z.1 + 1, z.2 ++ x.data)) ⟨by dsimp only; omega, by dsimp only; rw [zj, drop_x hx]; exact jrun_ok ef, by dsimp only; rw [ByteArray.size_append]; omega⟩ (by dsimp only; omega) ⟨rfl, rfl, rfl, rfl, trivial⟩ (Ent.refl _)
                  · refine L_gt_off h8 rfl rfl ?_ (fun _ h => by cases h; rfl)
                    refine L_gt_off h8 rfl rfl ?_ (fun _ h => by cases h; rfl)
                    refine L_gt_off h8 rfl rfl ?_ (fun _ h => by cases h; rfl)
                    refine L_gt_off h8 rfl rfl ?_ (fun _ h => by cases h; rfl)
                    refine L_v (opv_pick_f rfl h8 rfl) rfl ?_
                    refine L_nil ?_
                    refine K_then ?_
                    refine J_cond_false rfl ?_
                    refine J_skip ?_
                    refine K_then ?_
                    refine J_region ?_
                    refine L_v (opv_move rfl) rfl ?_
                    refine L_v (opv_move rfl) rfl ?_
                    refine L_v (opv_move rfl) rfl ?_
                    first
                      | refine L_v (opv_indexAddr rfl rfl (by omega)) rfl ?_
                      | refine L_v (opv_indexAddrA rfl rfl (by omega)) rfl ?_
                    first
                      | refine L_v (opv_fieldAddr0 rfl) rfl ?_
                      | refine L_v (opv_fieldAddr rfl) rfl ?_
                    refine L_v (opv_load rfl (Rd.of_take (S := R1) (hR.rd b o rfl z.1 x 7 _ hx rfl))) rfl ?_
                    refine L_v (opv_addS rfl rfl (by omega)) rfl ?_
                    refine L_v (opv_assign rfl) rfl ?_
                    refine L_nil ?_
                    refine K_block ?_
                    refine K_then ?_
                    refine J_region ?_
                    refine L_v (opv_move rfl) rfl ?_
                    first
                      | refine L_v (opv_add64 rfl rfl (by omega)) rfl ?_
                      | refine L_v (opv_addS rfl rfl (by omega)) rfl ?_
                      | refine L_v (opv_add rfl rfl) rfl ?_
                    refine L_v (opv_assign rfl) rfl ?_
                    refine L_nil ?_
                    have ef : fitC x z.2.size (L.drop (z.1 + 1)).isEmpty = 0 := fit_d (by omega) (by rintro ⟨g1, g2⟩; first | contradiction | omega | (simp_all; done)) (by rintro ⟨g1, g2⟩; first | contradiction | (have := hlast.1 g2; omega) | (simp_all; done))
                    exact K_loop ((z.1 + 1, z.2 ++ x.data)) ⟨by dsimp only; omega, by dsimp only; rw [zj, drop_x hx]; exact jrun_ok ef, by dsimp only; rw [ByteArray.size_append]; omega⟩ (by dsimp only; omega) ⟨rfl, rfl, rfl, rfl, trivial⟩ (Ent.refl _)
              · refine L_gf_off h6 rfl rfl ?_ (fun _ h => by cases h; rfl)
                refine L_gf_off h6 rfl rfl ?_ (fun _ h => by cases h; rfl)
                refine L_gf_off h6 rfl rfl ?_ (fun _ h => by cases h; rfl)
                refine L_gf_off h6 rfl rfl ?_ (fun _ h => by cases h; rfl)
                refine L_gf_off h6 rfl rfl ?_ (fun _ h => by cases h; rfl)
                refine L_gf_off h6 rfl rfl ?_ (fun _ h => by cases h; rfl)
                refine L_gf_off h6 rfl rfl ?_ (fun _ h => by cases h; rfl)
                refine L_gt_on h5 rfl rfl ?_
                refine L_v (opv_pick_t rfl h6 rfl) rfl ?_
                refine L_v (opv_pick_t rfl h5 rfl) rfl ?_
                refine L_nil ?_
                refine K_then ?_
                refine J_cond_true rfl ?_
                refine J_seq ?_
                refine J_region ?_
                refine L_v (opv_build rfl) rfl ?_
                refine L_x rfl (opx_store rfl rfl rfl (by simp [Value.oneCell'])) (fun _ _ => ?_)
                refine L_v (opv_assign rfl) rfl ?_
                refine L_nil ?_
                refine K_then ?_
                refine J_ret ?_
                refine K_then_ret ?_
                refine K_block_ret ?_
                refine K_then_ret ?_
                refine K_then_ret ?_
                refine K_block_ret ?_
                refine K_then_ret ?_
                have ef : fitC x z.2.size (L.drop (z.1 + 1)).isEmpty = 15 := fit_b (by omega) ⟨by assumption, by omega⟩
                have e0 : jrun L ByteArray.empty = (15, z.2) := by rw [zj, drop_x hx, jrun_bad (by rw [ef]; decide), ef]
                have e : joinC L = (pkz, 15) := by rw [join_bad hx0 h (by rw [e0]; show (15 : Int) ≠ 0; decide), e0]
                exact K_ret2c rfl rfl rfl rfl () trivial (by rw [rjV_bad e (by first | decide | assumption), e]) Ent.take
            · refine L_gt_off h5 rfl rfl ?_ (fun _ h => by cases h; rfl)
              refine L_gt_off h5 rfl rfl ?_ (fun _ h => by cases h; rfl)
              refine L_gt_off h5 rfl rfl ?_ (fun _ h => by cases h; rfl)
              refine L_gt_off h5 rfl rfl ?_ (fun _ h => by cases h; rfl)
              refine L_gt_off h5 rfl rfl ?_ (fun _ h => by cases h; rfl)
              refine L_gskipU rfl rfl (by simp [h5]) rfl ?_
              refine L_gU rfl rfl rfl ?_
              refine L_gU rfl rfl rfl ?_
              refine L_gU rfl rfl rfl ?_
              refine L_gU rfl rfl rfl ?_
              refine L_gU rfl rfl rfl ?_
              refine L_gU rfl rfl rfl ?_
              refine L_gU rfl rfl rfl ?_
              refine L_gU rfl rfl rfl ?_
              refine L_gt_off h5 rfl rfl ?_ (fun _ h => by cases h; rfl)
              refine L_v (opv_pick_f rfl h5 rfl) rfl ?_
              refine L_nil ?_
              refine K_then ?_
              refine J_cond_false rfl ?_
              refine J_skip ?_
              refine K_then ?_
              refine J_seq ?_
              refine J_seq ?_
              refine J_region ?_
              refine L_v (opv_move rfl) rfl ?_
              refine L_v (opv_move rfl) rfl ?_
              first
                | refine L_v (opv_indexAddr rfl rfl (by omega)) rfl ?_
                | refine L_v (opv_indexAddrA rfl rfl (by omega)) rfl ?_
              first
                | refine L_v (opv_fieldAddr0 rfl) rfl ?_
                | refine L_v (opv_fieldAddr rfl) rfl ?_
              refine L_v ((opv_load rfl (Rd.of_take (S := R1) (hR.rd b o rfl z.1 x 1 _ hx rfl))).as (v' := .bool (decide (x.more = true))) (by simp)) rfl ?_
              refine L_v ((opv_notD rfl).as (v' := .bool (decide (x.more = false))) (by simp)) rfl ?_
              refine L_v (opv_move rfl) rfl ?_
              refine L_gt rfl rfl (fun h10 => ?_) (fun h10 => ?_) (fun _ h => by cases h; rfl)
              · refine L_v (opv_move rfl) rfl ?_
                refine L_gt_on h10 rfl rfl ?_
                first
                  | refine L_v (opv_add64 rfl rfl (by omega)) rfl ?_
                  | refine L_v (opv_addS rfl rfl (by omega)) rfl ?_
                  | refine L_v (opv_add rfl rfl) rfl ?_
                refine L_gt_on h10 rfl rfl ?_
                refine L_v (opv_move rfl) rfl ?_
                refine L_gt_on h10 rfl rfl ?_
                first
                  | refine L_v (opv_lenL rfl) rfl ?_
                  | refine L_v (opv_lenS rfl) rfl ?_
                refine L_gt_on h10 rfl rfl ?_
                refine L_v (opv_lss rfl rfl) rfl ?_
                refine L_v (opv_pick_t rfl h10 rfl) rfl ?_
                refine L_nil ?_
                refine K_then ?_
                refine J_cond rfl (fun h11 => ?_) (fun h11 => ?_)
                · refine J_seq ?_
                  refine J_region ?_
                  refine L_v (opv_build rfl) rfl ?_
                  refine L_x rfl (opx_store rfl rfl rfl (by simp [Value.oneCell'])) (fun _ _ => ?_)
                  refine L_v (opv_assign rfl) rfl ?_
                  refine L_nil ?_
                  refine K_then ?_
                  refine J_ret ?_
                  refine K_then_ret ?_
                  refine K_block_ret ?_
                  refine K_then_ret ?_
                  refine K_then_ret ?_
                  refine K_block_ret ?_
                  refine K_then_ret ?_
                  have ef : fitC x z.2.size (L.drop (z.1 + 1)).isEmpty = 25 := fit_c (by omega) (by rintro ⟨g1, g2⟩; first | contradiction | omega | (simp_all; done)) ⟨by assumption, hlast.2 (by omega)⟩
                  have e0 : jrun L ByteArray.empty = (25, z.2) := by rw [zj, drop_x hx, jrun_bad (by rw [ef]; decide), ef]
                  have e : joinC L = (pkz, 25) := by rw [join_bad hx0 h (by rw [e0]; show (25 : Int) ≠ 0; decide), e0]
                  exact K_ret2c rfl rfl rfl rfl () trivial (by rw [rjV_bad e (by first | decide | assumption), e]) Ent.take
                · refine J_skip ?_
                  refine K_then ?_
                  refine J_region ?_
                  refine L_v (opv_move rfl) rfl ?_
                  refine L_v (opv_move rfl) rfl ?_
                  refine L_v (opv_move rfl) rfl ?_
                  first
                    | refine L_v (opv_indexAddr rfl rfl (by omega)) rfl ?_
                    | refine L_v (opv_indexAddrA rfl rfl (by omega)) rfl ?_
                  first
                    | refine L_v (opv_fieldAddr0 rfl) rfl ?_
                    | refine L_v (opv_fieldAddr rfl) rfl ?_
                  refine L_v (opv_load rfl (Rd.of_take (S := R1) (hR.rd b o rfl z.1 x 7 _ hx rfl))) rfl ?_
                  refine L_v (opv_addS rfl rfl (by omega)) rfl ?_
                  refine L_v (opv_assign rfl) rfl ?_
                  refine L_nil ?_
                  refine K_block ?_
                  refine K_then ?_
                  refine J_region ?_
                  refine L_v (opv_move rfl) rfl ?_
                  first
                    | refine L_v (opv_add64 rfl rfl (by omega)) rfl ?_
                    | refine L_v (opv_addS rfl rfl (by omega)) rfl ?_
                    | refine L_v (opv_add rfl rfl) rfl ?_
                  refine L_v (opv_assign rfl) rfl ?_
                  refine L_nil ?_
                  have ef : fitC x z.2.size (L.drop (z.1 + 1)).isEmpty = 0 := fit_d (by omega) (by rintro ⟨g1, g2⟩; first | contradiction | omega | (simp_all; done)) (by rintro ⟨g1, g2⟩; first | contradiction | (have := hlast.1 g2; omega) | (simp_all; done))
                  exact K_loop ((z.1 + 1, z.2 ++ x.data)) ⟨by dsimp only; omega, by dsimp only; rw [zj, drop_x hx]; exact jrun_ok ef, by dsimp only; rw [ByteArray.size_append]; omega⟩ (by dsimp only; omega) ⟨rfl, rfl, rfl, rfl, trivial⟩ (Ent.refl _)
              · refine L_gt_off h10 rfl rfl ?_ (fun _ h => by cases h; rfl)
                refine L_gt_off h10 rfl rfl ?_ (fun _ h => by cases h; rfl)
                refine L_gt_off h10 rfl rfl ?_ (fun _ h => by cases h; rfl)
                refine L_gt_off h10 rfl rfl ?_ (fun _ h => by cases h; rfl)
                refine L_v (opv_pick_f rfl h10 rfl) rfl ?_
                refine L_nil ?_
                refine K_then ?_
                refine J_cond_false rfl ?_
                refine J_skip ?_
                refine K_then ?_
                refine J_region ?_
                refine L_v (opv_move rfl) rfl ?_
                refine L_v (opv_move rfl) rfl ?_
                refine L_v (opv_move rfl) rfl ?_
                first
                  | refine L_v (opv_indexAddr rfl rfl (by omega)) rfl ?_
                  | refine L_v (opv_indexAddrA rfl rfl (by omega)) rfl ?_
                first
                  | refine L_v (opv_fieldAddr0 rfl) rfl ?_
                  | refine L_v (opv_fieldAddr rfl) rfl ?_
                refine L_v (opv_load rfl (Rd.of_take (S := R1) (hR.rd b o rfl z.1 x 7 _ hx rfl))) rfl ?_
                refine L_v (opv_addS rfl rfl (by omega)) rfl ?_
                refine L_v (opv_assign rfl) rfl ?_
                refine L_nil ?_
                refine K_block ?_
                refine K_then ?_
                refine J_region ?_
                refine L_v (opv_move rfl) rfl ?_
                first
                  | refine L_v (opv_add64 rfl rfl (by omega)) rfl ?_
                  | refine L_v (opv_addS rfl rfl (by omega)) rfl ?_
                  | refine L_v (opv_add rfl rfl) rfl ?_
                refine L_v (opv_assign rfl) rfl ?_
                refine L_nil ?_
                have ef : fitC x z.2.size (L.drop (z.1 + 1)).isEmpty = 0 := fit_d (by omega) (by rintro ⟨g1, g2⟩; first | contradiction | omega | (simp_all; done)) (by rintro ⟨g1, g2⟩; first | contradiction | (have := hlast.1 g2; omega) | (simp_all; done))
                exact K_loop ((z.1 + 1, z.2 ++ x.data)) ⟨by dsimp only; omega, by dsimp only; rw [zj, drop_x hx]; exact jrun_ok ef, by dsimp only; rw [ByteArray.size_append]; omega⟩ (by dsimp only; omega) ⟨rfl, rfl, rfl, rfl, trivial⟩ (Ent.refl _)
        · refine L_gf_off h3 rfl rfl ?_ (fun _ h => by cases h; rfl)
          refine L_gf_off h3 rfl rfl ?_ (fun _ h => by cases h; rfl)
          refine L_gf_off h3 rfl rfl ?_ (fun _ h => by cases h; rfl)
          refine L_gf_off h3 rfl rfl ?_ (fun _ h => by cases h; rfl)
          refine L_gf_off h3 rfl rfl ?_ (fun _ h => by cases h; rfl)
          refine L_gf_off h3 rfl rfl ?_ (fun _ h => by cases h; rfl)
          refine L_gf_off h3 rfl rfl ?_ (fun _ h => by cases h; rfl)
          refine L_gf_off h3 rfl rfl ?_ (fun _ h => by cases h; rfl)
          refine L_v (opv_pick_t rfl h3 rfl) rfl ?_
          refine L_nil ?_
          refine K_then ?_
          refine J_cond_true rfl ?_
          refine J_seq ?_
          refine J_region ?_
          refine L_v (opv_build rfl) rfl ?_
          refine L_x rfl (opx_store rfl rfl rfl (by simp [Value.oneCell'])) (fun _ _ => ?_)
          refine L_v (opv_assign rfl) rfl ?_
          refine L_nil ?_
          refine K_then ?_
          refine J_ret ?_
          refine K_then_ret ?_
          refine K_block_ret ?_
          refine K_then_ret ?_
          refine K_then_ret ?_
          refine K_block_ret ?_
          refine K_then_ret ?_
          have ef : fitC x z.2.size (L.drop (z.1 + 1)).isEmpty = 25 := fit_a (by omega)
          have e0 : jrun L ByteArray.empty = (25, z.2) := by rw [zj, drop_x hx, jrun_bad (by rw [ef]; decide), ef]
          have e : joinC L = (pkz, 25) := by rw [join_bad hx0 h (by rw [e0]; show (25 : Int) ≠ 0; decide), e0]
          exact K_ret2c rfl rfl rfl rfl () trivial (by rw [rjV_bad e (by first | decide | assumption), e]) Ent.take
      · refine L_gf_off h2 rfl rfl ?_ (fun _ h => by cases h; rfl)
        refine L_gf_off h2 rfl rfl ?_ (fun _ h => by cases h; rfl)
        refine L_gf_off h2 rfl rfl ?_ (fun _ h => by cases h; rfl)
        refine L_gf_off h2 rfl rfl ?_ (fun _ h => by cases h; rfl)
        refine L_gf_off h2 rfl rfl ?_ (fun _ h => by cases h; rfl)
        refine L_v (opv_pick_t rfl h2 rfl) rfl ?_
        refine L_v (opv_move rfl) rfl ?_
        refine L_gskip rfl rfl rfl ?_ (fun _ h => by cases h; rfl)
        refine L_gskip rfl rfl rfl ?_ (fun _ h => by cases h; rfl)
        refine L_gskip rfl rfl rfl ?_ (fun _ h => by cases h; rfl)
        refine L_gskip rfl rfl rfl ?_ (fun _ h => by cases h; rfl)
        refine L_gskip rfl rfl rfl ?_ (fun _ h => by cases h; rfl)
        refine L_gskip rfl rfl rfl ?_ (fun _ h => by cases h; rfl)
        refine L_gskip rfl rfl rfl ?_ (fun _ h => by cases h; rfl)
        refine L_gskip rfl rfl rfl ?_ (fun _ h => by cases h; rfl)
        refine L_gskip rfl rfl rfl ?_ (fun _ h => by cases h; rfl)
        first
          | refine L_v (opv_pick_tt rfl rfl) rfl ?_
          | refine L_v (opv_pick_ff rfl rfl) rfl ?_
          | refine L_v (opv_pick rfl rfl rfl) rfl ?_
        refine L_nil ?_
        refine K_then ?_
        refine J_cond_true rfl ?_
        refine J_seq ?_
        refine J_region ?_
        refine L_v (opv_build rfl) rfl ?_
        refine L_x rfl (opx_store rfl rfl rfl (by simp [Value.oneCell'])) (fun _ _ => ?_)
        refine L_v (opv_assign rfl) rfl ?_
        refine L_nil ?_
        refine K_then ?_
        refine J_ret ?_
        refine K_then_ret ?_
        refine K_block_ret ?_
        refine K_then_ret ?_
        refine K_then_ret ?_
        refine K_block_ret ?_
        refine K_then_ret ?_
        have ef : fitC x z.2.size (L.drop (z.1 + 1)).isEmpty = 25 := fit_a (by omega)
        have e0 : jrun L ByteArray.empty = (25, z.2) := by rw [zj, drop_x hx, jrun_bad (by rw [ef]; decide), ef]
        have e : joinC L = (pkz, 25) := by rw [join_bad hx0 h (by rw [e0]; show (25 : Int) ≠ 0; decide), e0]
        exact K_ret2c rfl rfl rfl rfl () trivial (by rw [rjV_bad e (by first | decide | assumption), e]) Ent.take
    · obtain ⟨xl, hxl⟩ : ∃ x, L[((L.length : Int) - 1).toNat]? = some x := ⟨_, List.getElem?_eq_getElem (by omega)⟩
      refine J_exit ?_
      refine K_then_exit ?_
      refine K_then_exit ?_
      refine K_block_here ?_
      refine K_then ?_
      refine J_seq ?_
      refine J_seq ?_
      refine J_region ?_
      refine L_v (opv_move rfl) rfl ?_
      refine L_v (opv_move rfl) rfl ?_
      first
        | refine L_v (opv_lenL rfl) rfl ?_
        | refine L_v (opv_lenS rfl) rfl ?_
      first
        | refine L_v (opv_sub64 rfl rfl (by omega)) rfl ?_
        | refine L_v (opv_sub rfl rfl) rfl ?_
      first
        | refine L_v (opv_indexAddr rfl rfl (by omega)) rfl ?_
        | refine L_v (opv_indexAddrA rfl rfl (by omega)) rfl ?_
      first
        | refine L_v (opv_fieldAddr0 rfl) rfl ?_
        | refine L_v (opv_fieldAddr rfl) rfl ?_
      refine L_v ((opv_load rfl (Rd.of_take (S := R1) (hR.rd b o rfl _ xl 1 _ hxl rfl))).as (v' := .bool (decide (xl.more = true))) (by simp)) rfl ?_
      refine L_nil ?_
      refine K_then ?_
      refine J_cond rfl (fun h12 => ?_) (fun h12 => ?_)
      · refine J_seq ?_
        refine J_region ?_
        refine L_v (opv_build rfl) rfl ?_
        refine L_x rfl (opx_store rfl rfl rfl (by simp [Value.oneCell'])) (fun _ _ => ?_)
        refine L_v (opv_assign rfl) rfl ?_
        refine L_nil ?_
        refine K_then ?_
        refine J_ret ?_
        refine K_then_ret ?_
        have hk : z.1 = L.length := by omega
        have e0 : jrun L ByteArray.empty = (0, z.2) := by rw [zj, hk, List.drop_length]; rfl
        have e : joinC L = (pkz, 10) := join_short hx0 h (by rw [e0]) hxl h12
        exact K_ret2c rfl rfl rfl rfl () trivial (by rw [rjV_bad e (by first | decide | assumption), e]) Ent.take
      · refine J_skip ?_
        refine K_then ?_
        refine J_seq ?_
        refine J_seq ?_
        refine J_region ?_
        refine L_v (opv_move rfl) rfl ?_
        first
          | refine L_v (opv_lenL rfl) rfl ?_
          | refine L_v (opv_lenS rfl) rfl ?_
        refine L_v (opv_gtr rfl rfl) rfl ?_
        refine L_nil ?_
        refine K_then ?_
        refine J_cond rfl (fun h13 => ?_) (fun h13 => ?_)
        · refine J_seq ?_
          refine J_region ?_
          refine L_v (opv_build rfl) rfl ?_
          refine L_x rfl (opx_store rfl rfl rfl (by simp [Value.oneCell'])) (fun _ _ => ?_)
          refine L_v (opv_assign rfl) rfl ?_
          refine L_nil ?_
          refine K_then ?_
          refine J_ret ?_
          refine K_then_ret ?_
          have hk : z.1 = L.length := by omega
          have e0 : jrun L ByteArray.empty = (0, z.2) := by rw [zj, hk, List.drop_length]; rfl
          have e : joinC L = (pkz, 11) := join_long hx0 h (by rw [e0]) hxl h12 (by rw [e0]; dsimp only; omega)
          exact K_ret2c rfl rfl rfl rfl () trivial (by rw [rjV_bad e (by first | decide | assumption), e]) Ent.take
        · refine J_skip ?_
          refine K_then ?_
          refine J_seq ?_
          refine J_region ?_
          refine L_v (opv_move rfl) rfl ?_
          first
            | refine L_v (opv_indexAddr rfl rfl (by omega)) rfl ?_
            | refine L_v (opv_indexAddrA rfl rfl (by omega)) rfl ?_
          refine L_v (opv_loadN (vs := [.int .i64 x0.id, .bool x0.more, .int .i64 x0.off, .int .i64 x0.ttl, .int .i64 x0.proto, .string (bytesL [x0.s0, x0.s1, x0.s2, x0.s3]), .string (bytesL [x0.d0, x0.d1, x0.d2, x0.d3]), .string x0.data]) rfl rfl (fun j u hj => Rd.of_take (S := R1) (hR.rd b o rfl 0 x0 j u hx0 hj))) rfl ?_
          refine L_x rfl (opx_alloc rfl) (fun b7 _ => ?_)
          refine L_x rfl (opx_store rfl rfl rfl (by simp [Value.oneCell'])) (fun _ _ => ?_)
          refine L_nil ?_
          refine K_then ?_
          refine J_seq ?_
          refine J_region ?_
          first
            | refine L_v (opv_fieldAddr0 rfl) rfl ?_
            | refine L_v (opv_fieldAddr rfl) rfl ?_
          refine L_x rfl (opx_store rfl rfl rfl (by simp [Value.oneCell'])) (fun _ _ => ?_)
          refine L_nil ?_
          refine K_then ?_
          refine J_seq ?_
          refine J_region ?_
          first
            | refine L_v (opv_fieldAddr0 rfl) rfl ?_
            | refine L_v (opv_fieldAddr rfl) rfl ?_
          refine L_x rfl (opx_store rfl rfl rfl (by simp [Value.oneCell'])) (fun _ _ => ?_)
          refine L_nil ?_
          refine K_then ?_
          refine J_seq ?_
          refine J_region ?_
          refine L_v (opv_move rfl) rfl ?_
          first
            | refine L_v (opv_fieldAddr0 rfl) rfl ?_
            | refine L_v (opv_fieldAddr rfl) rfl ?_
          refine L_x rfl (opx_store rfl rfl rfl (by simp [Value.oneCell'])) (fun _ _ => ?_)
          refine L_nil ?_
          refine K_then ?_
          refine J_seq ?_
          refine J_region ?_
          refine L_v (opv_loadS rfl) rfl ?_
          refine L_x rfl (opx_store rfl rfl rfl (by simp [Value.oneCell'])) (fun _ _ => ?_)
          refine L_v (opv_assign rfl) rfl ?_
          refine L_nil ?_
          refine K_then ?_
          refine J_ret ?_
          have hk : z.1 = L.length := by omega
          have e0 : jrun L ByteArray.empty = (0, z.2) := by rw [zj, hk, List.drop_length]; rfl
          have e : joinC L = ({ x0 with more := false, off := 0, data := z.2 }, 0) := by rw [join_ok hx0 h (by rw [e0]) hxl h12 (by rw [e0]; dsimp only; omega), e0]
          exact K_ret2c rfl rfl rfl rfl () trivial (by rw [rjV_ok e, e]; rfl) Ent.take
  · refine J_seq ?_
    refine J_seq ?_
    refine J_region ?_
    refine L_v (opv_move rfl) rfl ?_
    refine L_v (opv_move rfl) rfl ?_
    first
      | refine L_v (opv_lenL rfl) rfl ?_
      | refine L_v (opv_lenS rfl) rfl ?_
    first
      | refine L_v ((opv_lss rfl rfl).bool_t (by omega)) rfl ?_
      | refine L_v ((opv_lss rfl rfl).bool_f (by omega)) rfl ?_
    refine L_nil ?_
    refine K_then ?_
    refine J_cond_true rfl ?_
    refine J_skip ?_
    refine K_then ?_
    refine J_seq ?_
    refine J_block ?_
    refine J_seq ?_
    obtain ⟨x, hx⟩ : ∃ x, L[i]? = some x := ⟨_, List.getElem?_eq_getElem hil⟩
    have heq := odd_all h hx
    refine J_quiet Try.mixed (by kernel_rfl) ?_
    refine Q_v (opv_move rfl) rfl ?_
    refine Q_v (opv_move rfl) rfl ?_
    first
      | refine Q_v (opv_indexAddr rfl rfl (by omega)) rfl ?_
      | refine Q_v (opv_indexAddrA rfl rfl (by omega)) rfl ?_
    first
      | refine Q_v (opv_fieldAddr0 rfl) rfl ?_
      | refine Q_v (opv_fieldAddr rfl) rfl ?_
    refine Q_v (opv_load rfl (Rd.of_take (S := R1) (hR.rd b o rfl i x 0 _ hx rfl))) rfl ?_
    refine Q_v (opv_move rfl) rfl ?_
    refine Q_v (opv_indexAddr rfl rfl (by omega)) rfl ?_
    first
      | refine Q_v (opv_fieldAddr0 rfl) rfl ?_
      | refine Q_v (opv_fieldAddr rfl) rfl ?_
    refine Q_v (opv_load rfl (Rd.of_take (S := R1) (hR.rd b o rfl 0 x0 0 _ hx0 rfl))) rfl ?_
    first
      | refine Q_v ((opv_neq rfl rfl).bool_f (fun n => n heq.1)) rfl ?_
      | refine Q_v (opv_neq rfl rfl) rfl ?_
    refine Q_v (opv_move rfl) rfl ?_
    refine Q_gon rfl rfl rfl ?_
    refine Q_v (opv_move rfl) rfl ?_
    refine Q_gon rfl rfl rfl ?_
    refine Q_v (opv_move rfl) rfl ?_
    refine Q_gon rfl rfl rfl ?_
    first
      | refine Q_v (opv_indexAddr rfl rfl (by omega)) rfl ?_
      | refine Q_v (opv_indexAddrA rfl rfl (by omega)) rfl ?_
    refine Q_gon rfl rfl rfl ?_
    first
      | refine Q_v (opv_fieldAddr0 rfl) rfl ?_
      | refine Q_v (opv_fieldAddr rfl) rfl ?_
    refine Q_gon rfl rfl rfl ?_
    refine Q_v (opv_load rfl (Rd.of_take (S := R1) (hR.rd b o rfl i x 3 _ hx rfl))) rfl ?_
    refine Q_gon rfl rfl rfl ?_
    refine Q_v (opv_move rfl) rfl ?_
    refine Q_gon rfl rfl rfl ?_
    refine Q_v (opv_indexAddr rfl rfl (by omega)) rfl ?_
    refine Q_gon rfl rfl rfl ?_
    first
      | refine Q_v (opv_fieldAddr0 rfl) rfl ?_
      | refine Q_v (opv_fieldAddr rfl) rfl ?_
    refine Q_gon rfl rfl rfl ?_
    refine Q_v (opv_load rfl (Rd.of_take (S := R1) (hR.rd b o rfl 0 x0 3 _ hx0 rfl))) rfl ?_
    refine Q_gon rfl rfl rfl ?_
    first
      | refine Q_v ((opv_neq rfl rfl).bool_f (fun n => n heq.2.1)) rfl ?_
      | refine Q_v (opv_neq rfl rfl) rfl ?_
    first
      | refine Q_v (opv_pick_tt rfl rfl) rfl ?_
      | refine Q_v (opv_pick_ff rfl rfl) rfl ?_
      | refine Q_v (opv_pick rfl rfl rfl) rfl ?_
    refine Q_v (opv_move rfl) rfl ?_
    refine Q_gon rfl rfl rfl ?_
    refine Q_v (opv_move rfl) rfl ?_
    refine Q_gon rfl rfl rfl ?_
    refine Q_v (opv_move rfl) rfl ?_
    refine Q_gon rfl rfl rfl ?_
    first
      | refine Q_v (opv_indexAddr rfl rfl (by omega)) rfl ?_
      | refine Q_v (opv_indexAddrA rfl rfl (by omega)) rfl ?_
    refine Q_gon rfl rfl rfl ?_
    first
      | refine Q_v (opv_fieldAddr0 rfl) rfl ?_
      | refine Q_v (opv_fieldAddr rfl) rfl ?_
    refine Q_gon rfl rfl rfl ?_
    refine Q_v (opv_load rfl (Rd.of_take (S := R1) (hR.rd b o rfl i x 4 _ hx rfl))) rfl ?_
    refine Q_gon rfl rfl rfl ?_
    refine Q_v (opv_move rfl) rfl ?_
    refine Q_gon rfl rfl rfl ?_
    refine Q_v (opv_indexAddr rfl rfl (by omega)) rfl ?_
    refine Q_gon rfl rfl rfl ?_
    first
      | refine Q_v (opv_fieldAddr0 rfl) rfl ?_
      | refine Q_v (opv_fieldAddr rfl) rfl ?_
    refine Q_gon rfl rfl rfl ?_
    refine Q_v (opv_load rfl (Rd.of_take (S := R1) (hR.rd b o rfl 0 x0 4 _ hx0 rfl))) rfl ?_
    refine Q_gon rfl rfl rfl ?_
    first
      | refine Q_v ((opv_neq rfl rfl).bool_f (fun n => n heq.2.2.1)) rfl ?_
      | refine Q_v (opv_neq rfl rfl) rfl ?_
    first
      | refine Q_v (opv_pick_tt rfl rfl) rfl ?_
      | refine Q_v (opv_pick_ff rfl rfl) rfl ?_
      | refine Q_v (opv_pick rfl rfl rfl) rfl ?_
    refine Q_v (opv_move rfl) rfl ?_
    refine Q_gon rfl rfl rfl ?_
    refine Q_v (opv_move rfl) rfl ?_
    refine Q_gon rfl rfl rfl ?_
    refine Q_v (opv_move rfl) rfl ?_
    refine Q_gon rfl rfl rfl ?_
    first
      | refine Q_v (opv_indexAddr rfl rfl (by omega)) rfl ?_
      | refine Q_v (opv_indexAddrA rfl rfl (by omega)) rfl ?_
    refine Q_gon rfl rfl rfl ?_
    first
      | refine Q_v (opv_fieldAddr0 rfl) rfl ?_
      | refine Q_v (opv_fieldAddr rfl) rfl ?_
    refine Q_gon rfl rfl rfl ?_
    refine Q_v (opv_load rfl (Rd.of_take (S := R1) (hR.rd b o rfl i x 5 _ hx rfl))) rfl ?_
    refine Q_gon rfl rfl rfl ?_
    refine Q_v (opv_move rfl) rfl ?_
    refine Q_gon rfl rfl rfl ?_
    refine Q_v (opv_indexAddr rfl rfl (by omega)) rfl ?_
    refine Q_gon rfl rfl rfl ?_
    first
      | refine Q_v (opv_fieldAddr0 rfl) rfl ?_
      | refine Q_v (opv_fieldAddr rfl) rfl ?_
    refine Q_gon rfl rfl rfl ?_
    refine Q_v (opv_load rfl (Rd.of_take (S := R1) (hR.rd b o rfl 0 x0 5 _ hx0 rfl))) rfl ?_
    refine Q_gon rfl rfl rfl ?_
    first
      | refine Q_v ((opv_neqS rfl rfl).bool_f (fun n => n (by rw [heq.2.2.2.1.1, heq.2.2.2.1.2.1, heq.2.2.2.1.2.2.1, heq.2.2.2.1.2.2.2]))) rfl ?_
      | refine Q_v (opv_neqS rfl rfl) rfl ?_
    first
      | refine Q_v (opv_pick_tt rfl rfl) rfl ?_
      | refine Q_v (opv_pick_ff rfl rfl) rfl ?_
      | refine Q_v (opv_pick rfl rfl rfl) rfl ?_
    refine Q_v (opv_move rfl) rfl ?_
    refine Q_gon rfl rfl rfl ?_
    refine Q_v (opv_move rfl) rfl ?_
    refine Q_gon rfl rfl rfl ?_
    refine Q_v (opv_move rfl) rfl ?_
    refine Q_gon rfl rfl rfl ?_
    first
      | refine Q_v (opv_indexAddr rfl rfl (by omega)) rfl ?_
      | refine Q_v (opv_indexAddrA rfl rfl (by omega)) rfl ?_
    refine Q_gon rfl rfl rfl ?_
    first
      | refine Q_v (opv_fieldAddr0 rfl) rfl ?_
      | refine Q_v (opv_fieldAddr rfl) rfl ?_
    refine Q_gon rfl rfl rfl ?_
    refine Q_v (opv_load rfl (Rd.of_take (S := R1) (hR.rd b o rfl i x 6 _ hx rfl))) rfl ?_
    refine Q_gon rfl rfl rfl ?_
    refine Q_v (opv_move rfl) rfl ?_
    refine Q_gon rfl rfl rfl ?_
    refine Q_v (opv_indexAddr rfl rfl (by omega)) rfl ?_
    refine Q_gon rfl rfl rfl ?_
    first
      | refine Q_v (opv_fieldAddr0 rfl) rfl ?_
      | refine Q_v (opv_fieldAddr rfl) rfl ?_
    refine Q_gon rfl rfl rfl ?_
    refine Q_v (opv_load rfl (Rd.of_take (S := R1) (hR.rd b o rfl 0 x0 6 _ hx0 rfl))) rfl ?_
    refine Q_gon rfl rfl rfl ?_
    first
      | refine Q_v ((opv_neqS rfl rfl).bool_f (fun n => n (by rw [heq.2.2.2.2.1, heq.2.2.2.2.2.1, heq.2.2.2.2.2.2.1, heq.2.2.2.2.2.2.2]))) rfl ?_
      | refine Q_v (opv_neqS rfl rfl) rfl ?_
    first
      | refine Q_v (opv_pick_tt rfl rfl) rfl ?_
      | refine Q_v (opv_pick_ff rfl rfl) rfl ?_
      | refine Q_v (opv_pick rfl rfl rfl) rfl ?_
    refine QL_nil ?_
    refine K_then ?_
    refine J_cond_false rfl ?_
    refine J_skip ?_
    refine K_block ?_
    refine K_then ?_
    refine J_region ?_
    refine L_v (opv_move rfl) rfl ?_
    first
      | refine L_v (opv_add64 rfl rfl (by omega)) rfl ?_
      | refine L_v (opv_addS rfl rfl (by omega)) rfl ?_
      | refine L_v (opv_add rfl rfl) rfl ?_
    refine L_v (opv_assign rfl) rfl ?_
    refine L_nil ?_
    exact K_loop (i + 1) (by omega) (by omega) ⟨rfl, rfl, rfl, trivial⟩ (Ent.refl _)

end Go.Proofs.Ytjpbpfihacfndaa
