/- Contracts of Put of the document's table, each proved by a walk over its code; they are used by the texts that import this one. -/
import Derived.Test.YtjpbpfihacfndaaRo
import Derived.Test.YtjpbpfihacfndaaH
namespace Go.Proofs.Ytjpbpfihacfndaa
open Go.SLA
set_option maxRecDepth 100000
set_option linter.unusedVariables false
set_option linter.unusedSimpArgs false
attribute [local irreducible] J L K QL Rg FSpec OpV OpX Rd Back
set_option maxHeartbeats 800000 in
theorem RPut_wrong (rp : Nat) (A : Option Addr) (c : Nat) (B : List Bgr) (m wt now0 dr : Int) (hn : B.length ≤ 1000000) (now : Int) (x : Pk) (hx : okA x) (h : timC now0 now = 0) (h0 : 0 ≤ now0) (hwt : 0 ≤ wt ∧ wt ≤ 1125899906842624) (hb : ∀ b ∈ B, 0 ≤ b.t ∧ b.t ≤ 1125899906842624) (hdr : 0 ≤ dr ∧ dr ≤ 1000000) (B1 : List Bgr) (dr1 : Int) (h1 : B.filter (keepB wt now) = B1) (h2 : dr + B.length - B1.length = dr1) (hB : ∀ b ∈ B1, okA b.p) (hn1 : B1.length ≤ 1000000) (hd1 : 0 ≤ dr1 ∧ dr1 ≤ 1000000) (hxd : x.data.size ≤ 1000000) (ho : x.off ≠ 0) (hf : fB B1 x < B1.length) (y : Bgr) (hy : B1[fB B1 x]? = some y) (hyd : y.data.size ≤ 8200) (hs : sndC x y.data.size ≠ 0) : FSpec Try.prog 33 #[.pointer (some (ad rp 0)), .int .i64 now, .agg [.int .i64 x.id, .bool x.more, .int .i64 x.off, .int .i64 x.ttl, .int .i64 x.proto, .string (bytesL [x.s0, x.s1, x.s2, x.s3]), .string (bytesL [x.d0, x.d1, x.d2, x.d3]), .string x.data].toArray] ((sep (Own 73 10 (.slice A B.length c) B.length (B.flatMap encB)) (cel rp [.slice A B.length c, .int .i64 m, .int .i64 wt, .int .i64 now0, .int .i64 dr] 67))) (fun r : Option Addr × Nat => True) (fun r => .tuple #[.agg [.int .i64 0, .bool false, .int .i64 0, .int .i64 0, .int .i64 0, .string ⟨#[]⟩, .string ⟨#[]⟩, .string ⟨#[]⟩].toArray, .bool false, .int .i64 (sndC x y.data.size)]) (fun r => (sep (Own 73 10 (.slice r.1 (B1.take (fB B1 x) ++ B1.drop ((fB B1 x) + 1)).length r.2) (B1.take (fB B1 x) ++ B1.drop ((fB B1 x) + 1)).length ((B1.take (fB B1 x) ++ B1.drop ((fB B1 x) + 1)).flatMap encB)) (cel rp [.slice r.1 (B1.take (fB B1 x) ++ B1.drop ((fB B1 x) + 1)).length r.2, .int .i64 m, .int .i64 wt, .int .i64 now, .int .i64 (dr1 + 1)] 67))) := by
  refine FSpec.enter' Try.func33 rfl Try.ntmps33 rfl fun σ F => ?_
  refine J_seq ?_
  refine J_region ?_
  refine L_x rfl (opx_box (l := [.int .i64 x.id, .bool x.more, .int .i64 x.off, .int .i64 x.ttl, .int .i64 x.proto, .string (bytesL [x.s0, x.s1, x.s2, x.s3]), .string (bytesL [x.d0, x.d1, x.d2, x.d3]), .string x.data]) rfl rfl) (fun b5 _ => ?_)
  refine L_x rfl (opx_alloc rfl) (fun b6 _ => ?_)
  refine L_v (opv_assign rfl) rfl ?_
  refine L_v (opv_assign rfl) rfl ?_
  refine L_nil ?_
  refine K_then ?_
  refine J_seq ?_
  refine J_region ?_
  refine L_v (opv_move rfl) rfl ?_
  refine L_v (opv_move rfl) rfl ?_
  refine L_x rfl (opx_call0 (RPass_z rp A c B m wt now0 dr hn now h h0 hwt hb hdr B1 dr1 h1 h2) rfl rfl rfl) (fun r _ => ?_)
  refine L_v (opv_assign rfl) rfl ?_
  refine L_nil ?_
  refine K_then ?_
  refine J_seq ?_
  refine J_seq ?_
  refine J_region ?_
  refine L_v (opv_move rfl) rfl ?_
  refine L_v ((opv_neq rfl rfl).bool_f (by decide)) rfl ?_
  refine L_nil ?_
  refine K_then ?_
  refine J_cond_false rfl ?_
  refine J_skip ?_
  refine K_then ?_
  refine J_seq ?_
  refine J_seq ?_
  refine J_region ?_
  first
    | refine L_v (opv_fieldAddr0 rfl) rfl ?_
    | refine L_v (opv_fieldAddr rfl) rfl ?_
  refine L_v ((opv_load rfl (Rd.look rfl)).as (v' := .bool (decide (x.more = true))) (by simp)) rfl ?_
  refine L_v ((opv_notD rfl)) rfl ?_
  refine L_v (opv_move rfl) rfl ?_
  refine L_gt rfl rfl (fun h1 => ?_) (fun h1 => ?_) (fun _ h => by cases h; rfl)
  · first
      | refine L_v (opv_fieldAddr0 rfl) rfl ?_
      | refine L_v (opv_fieldAddr rfl) rfl ?_
    refine L_gt_on h1 rfl rfl ?_
    refine L_v (opv_load rfl (Rd.look rfl)) rfl ?_
    refine L_gt_on h1 rfl rfl ?_
    refine L_v ((opv_eql rfl rfl).bool_f ho) rfl ?_
    refine L_v (opv_pick_t rfl h1 rfl) rfl ?_
    refine L_nil ?_
    refine K_then ?_
    refine J_cond_false rfl ?_
    refine J_skip ?_
    refine K_then ?_
    refine J_seq ?_
    refine J_region ?_
    refine L_v (opv_move rfl) rfl ?_
    refine L_v (opv_loadS rfl) rfl ?_
    refine L_x rfl (opx_call0 (Rfind_spec rp r.1 r.2 B1 m wt now dr1 hn1 x hx hB) rfl rfl rfl) (fun _ _ => ?_)
    rw [if_pos hf]
    refine L_v (opv_assign rfl) rfl ?_
    refine L_nil ?_
    refine K_then ?_
    refine J_seq ?_
    refine J_seq ?_
    refine J_region ?_
    first
      | refine L_v (opv_fieldAddr0 rfl) rfl ?_
      | refine L_v (opv_fieldAddr rfl) rfl ?_
    refine L_v (opv_load rfl (Rd.look rfl)) rfl ?_
    refine L_v ((opv_eql rfl rfl).bool_f ho) rfl ?_
    refine L_nil ?_
    refine K_then ?_
    refine J_cond_false rfl ?_
    refine J_skip ?_
    refine K_then ?_
    refine J_seq ?_
    refine J_seq ?_
    refine J_region ?_
    refine L_v (opv_move rfl) rfl ?_
    refine L_v ((opv_lss rfl rfl).bool_f (by omega)) rfl ?_
    refine L_nil ?_
    refine K_then ?_
    refine J_cond_false rfl ?_
    refine J_skip ?_
    refine K_then ?_
    refine J_seq ?_
    obtain ⟨A1, c1⟩ := r
    refine J_imp (sep (Own 73 10 (.slice A1 B1.length c1) B1.length (B1.flatMap encB)) (sep (cel rp [.slice A1 B1.length c1, .int .i64 m, .int .i64 wt, .int .i64 now, .int .i64 dr1] 67) (sep (cel b5 [.int .i64 x.id, .bool x.more, .int .i64 x.off, .int .i64 x.ttl, .int .i64 x.proto, .string (bytesL [x.s0, x.s1, x.s2, x.s3]), .string (bytesL [x.d0, x.d1, x.d2, x.d3]), .string x.data] 36) (sep (cel b6 [.int .i64 0, .bool false, .int .i64 0, .int .i64 0, .int .i64 0, .string ⟨#[]⟩, .string ⟨#[]⟩, .string ⟨#[]⟩] 36) (F))))) ?_ ?_
    · exact Ent.take
    refine J_know (fun w hs => own_nonnil hs) fun hA => ?_
    obtain ⟨b, o, rfl⟩ : ∃ b o, A1 = some (ad b o) := by rcases hA with ⟨_, _, h, _⟩ | h; omega; exact h
    refine J_region ?_
    refine L_v (opv_move rfl) rfl ?_
    refine L_v (opv_nilCheck rfl) rfl ?_
    first
      | refine L_v (opv_fieldAddr0 rfl) rfl ?_
      | refine L_v (opv_fieldAddr rfl) rfl ?_
    refine L_v (opv_load rfl (Rd.look rfl)) rfl ?_
    refine L_v (opv_move rfl) rfl ?_
    first
      | refine L_v (opv_indexAddr rfl rfl (by omega)) rfl ?_
      | refine L_v (opv_indexAddrA rfl rfl (by omega)) rfl ?_
    first
      | refine L_v (opv_fieldAddr0 rfl) rfl ?_
      | refine L_v (opv_fieldAddr rfl) rfl ?_
    refine L_v (opv_load rfl (Rd.of_take (S := Own 73 10 (.slice (some (ad b o)) B1.length c1) B1.length (B1.flatMap encB)) ((RdS.own (m := 10) (e := 73) (c := c1) (xs := B1) encB_len (.inr ⟨b, o, rfl⟩)).rd b o rfl (fB B1 x) y 9 _ hy rfl))) rfl ?_
    refine L_v (opv_assign rfl) rfl ?_
    refine L_nil ?_
    refine K_then ?_
    refine J_seq ?_
    refine J_region ?_
    refine L_v (opv_assign rfl) rfl ?_
    refine L_nil ?_
    refine K_then ?_
    refine J_seq ?_
    refine J_seq ?_
    refine J_region ?_
    refine L_v (opv_move rfl) rfl ?_
    first
      | refine L_v (opv_lenL rfl) rfl ?_
      | refine L_v (opv_lenS rfl) rfl ?_
    refine L_v ((opv_remP rfl rfl (by omega)).as (v' := .int .i64 ((y.data.size % 8 : Nat) : Int)) rfl) rfl ?_
    first
      | refine L_v (opv_neq rfl rfl) rfl ?_
      | refine L_v (opv_neqS rfl rfl) rfl ?_
      | refine L_v (opv_neqNil rfl rfl) rfl ?_
      | refine L_v (opv_neqB rfl rfl) rfl ?_
    refine L_v (opv_move rfl) rfl ?_
    refine L_gf rfl rfl (fun h2 => ?_) (fun h2 => ?_) (fun _ h => by cases h; rfl)
    · first
        | refine L_v (opv_fieldAddr0 rfl) rfl ?_
        | refine L_v (opv_fieldAddr rfl) rfl ?_
      refine L_gf_on h2 rfl rfl ?_
      refine L_v (opv_load rfl (Rd.look rfl)) rfl ?_
      refine L_gf_on h2 rfl rfl ?_
      refine L_v (opv_move rfl) rfl ?_
      refine L_gf_on h2 rfl rfl ?_
      first
        | refine L_v (opv_lenL rfl) rfl ?_
        | refine L_v (opv_lenS rfl) rfl ?_
      refine L_gf_on h2 rfl rfl ?_
      refine L_v ((opv_quoP rfl rfl (by omega)).as (v' := .int .i64 ((y.data.size / 8 : Nat) : Int)) rfl) rfl ?_
      refine L_gf_on h2 rfl rfl ?_
      first
        | refine L_v (opv_neq rfl rfl) rfl ?_
        | refine L_v (opv_neqS rfl rfl) rfl ?_
        | refine L_v (opv_neqNil rfl rfl) rfl ?_
        | refine L_v (opv_neqB rfl rfl) rfl ?_
      refine L_v (opv_pick_f rfl h2 rfl) rfl ?_
      refine L_nil ?_
      refine K_then ?_
      refine J_cond rfl (fun h3 => ?_) (fun h3 => ?_)
      · refine J_region ?_
        refine L_v (opv_assign rfl) rfl ?_
        refine L_nil ?_
        refine K_then ?_
        refine J_seq ?_
        refine J_seq ?_
        refine J_region ?_
        refine L_v (opv_move rfl) rfl ?_
        first
          | refine L_v ((opv_neq rfl rfl).bool_t (by decide)) rfl ?_
          | refine L_v ((opv_neq rfl rfl).bool_f (by decide)) rfl ?_
        refine L_nil ?_
        refine K_then ?_
        refine J_cond_true rfl ?_
        refine J_seq ?_
        refine J_region ?_
        refine L_v (opv_move rfl) rfl ?_
        refine L_v (opv_move rfl) rfl ?_
        refine L_x rfl (opx_call0 (Rdrop_spec rp (some (ad b o)) c1 B1 m wt now dr1 hn1 (fB B1 x) hf) rfl rfl rfl) (fun r2 _ => ?_)
        refine L_nil ?_
        refine K_then ?_
        refine J_seq ?_
        refine J_region ?_
        refine L_v (opv_move rfl) rfl ?_
        refine L_v (opv_move rfl) rfl ?_
        refine L_v (opv_nilCheck rfl) rfl ?_
        first
          | refine L_v (opv_fieldAddr0 rfl) rfl ?_
          | refine L_v (opv_fieldAddr rfl) rfl ?_
        refine L_v (opv_load rfl (Rd.look rfl)) rfl ?_
        first
          | refine L_v (opv_add64 rfl rfl (by omega)) rfl ?_
          | refine L_v (opv_addS rfl rfl (by omega)) rfl ?_
          | refine L_v (opv_add rfl rfl) rfl ?_
        refine L_v (opv_nilCheck rfl) rfl ?_
        first
          | refine L_v (opv_fieldAddr0 rfl) rfl ?_
          | refine L_v (opv_fieldAddr rfl) rfl ?_
        refine L_x rfl (opx_store rfl rfl rfl (by simp [Value.oneCell'])) (fun _ _ => ?_)
        refine L_nil ?_
        refine K_then ?_
        refine J_seq ?_
        refine J_region ?_
        refine L_v (opv_build rfl) rfl ?_
        refine L_v (opv_move rfl) rfl ?_
        refine L_x rfl (opx_store rfl rfl rfl (by simp [Value.oneCell'])) (fun _ _ => ?_)
        refine L_v (opv_assign rfl) rfl ?_
        refine L_v (opv_assign rfl) rfl ?_
        refine L_nil ?_
        refine K_then ?_
        refine J_ret ?_
        refine K_then_ret ?_
        have e : sndC x y.data.size = 25 := by unfold sndC; rw [if_pos (by omega)]
        rw [e]
        exact K_ret3c rfl rfl rfl rfl rfl r2 trivial rfl (Ent.take (Q := (sep ((sep (Own 73 10 (.slice r2.1 (B1.take (fB B1 x) ++ B1.drop ((fB B1 x) + 1)).length r2.2) (B1.take (fB B1 x) ++ B1.drop ((fB B1 x) + 1)).length ((B1.take (fB B1 x) ++ B1.drop ((fB B1 x) + 1)).flatMap encB)) (cel rp [.slice r2.1 (B1.take (fB B1 x) ++ B1.drop ((fB B1 x) + 1)).length r2.2, .int .i64 m, .int .i64 wt, .int .i64 now, .int .i64 (dr1 + 1)] 67))) (F))))
      · refine J_seq ?_
        refine J_region ?_
        refine L_v (opv_loadS rfl) rfl ?_
        refine L_x rfl (opx_call0 (wrong_spec x) rfl rfl rfl) (fun _ _ => ?_)
        refine L_emp ?_
        refine L_nil ?_
        refine K_then ?_
        refine J_cond rfl (fun h4 => ?_) (fun h4 => ?_)
        · refine J_region ?_
          refine L_v (opv_assign rfl) rfl ?_
          refine L_nil ?_
          refine K_then ?_
          refine J_seq ?_
          refine J_seq ?_
          refine J_region ?_
          refine L_v (opv_move rfl) rfl ?_
          first
            | refine L_v ((opv_neq rfl rfl).bool_t (by decide)) rfl ?_
            | refine L_v ((opv_neq rfl rfl).bool_f (by decide)) rfl ?_
          refine L_nil ?_
          refine K_then ?_
          refine J_cond_true rfl ?_
          refine J_seq ?_
          refine J_region ?_
          refine L_v (opv_move rfl) rfl ?_
          refine L_v (opv_move rfl) rfl ?_
          refine L_x rfl (opx_call0 (Rdrop_spec rp (some (ad b o)) c1 B1 m wt now dr1 hn1 (fB B1 x) hf) rfl rfl rfl) (fun r2 _ => ?_)
          refine L_nil ?_
          refine K_then ?_
          refine J_seq ?_
          refine J_region ?_
          refine L_v (opv_move rfl) rfl ?_
          refine L_v (opv_move rfl) rfl ?_
          refine L_v (opv_nilCheck rfl) rfl ?_
          first
            | refine L_v (opv_fieldAddr0 rfl) rfl ?_
            | refine L_v (opv_fieldAddr rfl) rfl ?_
          refine L_v (opv_load rfl (Rd.look rfl)) rfl ?_
          first
            | refine L_v (opv_add64 rfl rfl (by omega)) rfl ?_
            | refine L_v (opv_addS rfl rfl (by omega)) rfl ?_
            | refine L_v (opv_add rfl rfl) rfl ?_
          refine L_v (opv_nilCheck rfl) rfl ?_
          first
            | refine L_v (opv_fieldAddr0 rfl) rfl ?_
            | refine L_v (opv_fieldAddr rfl) rfl ?_
          refine L_x rfl (opx_store rfl rfl rfl (by simp [Value.oneCell'])) (fun _ _ => ?_)
          refine L_nil ?_
          refine K_then ?_
          refine J_seq ?_
          refine J_region ?_
          refine L_v (opv_build rfl) rfl ?_
          refine L_v (opv_move rfl) rfl ?_
          refine L_x rfl (opx_store rfl rfl rfl (by simp [Value.oneCell'])) (fun _ _ => ?_)
          refine L_v (opv_assign rfl) rfl ?_
          refine L_v (opv_assign rfl) rfl ?_
          refine L_nil ?_
          refine K_then ?_
          refine J_ret ?_
          refine K_then_ret ?_
          have e : sndC x y.data.size = 15 := by unfold sndC; rw [if_neg (by omega), if_pos h4]
          rw [e]
          exact K_ret3c rfl rfl rfl rfl rfl r2 trivial rfl (Ent.take (Q := (sep ((sep (Own 73 10 (.slice r2.1 (B1.take (fB B1 x) ++ B1.drop ((fB B1 x) + 1)).length r2.2) (B1.take (fB B1 x) ++ B1.drop ((fB B1 x) + 1)).length ((B1.take (fB B1 x) ++ B1.drop ((fB B1 x) + 1)).flatMap encB)) (cel rp [.slice r2.1 (B1.take (fB B1 x) ++ B1.drop ((fB B1 x) + 1)).length r2.2, .int .i64 m, .int .i64 wt, .int .i64 now, .int .i64 (dr1 + 1)] 67))) (F))))
        · refine J_seq ?_
          refine J_region ?_
          refine L_v (opv_move rfl) rfl ?_
          first
            | refine L_v (opv_lenL rfl) rfl ?_
            | refine L_v (opv_lenS rfl) rfl ?_
          first
            | refine L_v (opv_fieldAddr0 rfl) rfl ?_
            | refine L_v (opv_fieldAddr rfl) rfl ?_
          refine L_v (opv_load rfl (Rd.look rfl)) rfl ?_
          first
            | refine L_v (opv_lenL rfl) rfl ?_
            | refine L_v (opv_lenS rfl) rfl ?_
          refine L_v ((opv_add64 rfl rfl (by omega))) rfl ?_
          refine L_v (opv_gtr rfl rfl) rfl ?_
          refine L_nil ?_
          refine K_then ?_
          refine J_cond rfl (fun h5 => ?_) (fun h5 => absurd (by unfold sndC; rw [if_neg (by omega), if_neg h4, if_neg (by omega)]) hs)
          refine J_region ?_
          refine L_v (opv_assign rfl) rfl ?_
          refine L_nil ?_
          refine K_then ?_
          refine J_seq ?_
          refine J_seq ?_
          refine J_region ?_
          refine L_v (opv_move rfl) rfl ?_
          first
            | refine L_v ((opv_neq rfl rfl).bool_t (by decide)) rfl ?_
            | refine L_v ((opv_neq rfl rfl).bool_f (by decide)) rfl ?_
          refine L_nil ?_
          refine K_then ?_
          refine J_cond_true rfl ?_
          refine J_seq ?_
          refine J_region ?_
          refine L_v (opv_move rfl) rfl ?_
          refine L_v (opv_move rfl) rfl ?_
          refine L_x rfl (opx_call0 (Rdrop_spec rp (some (ad b o)) c1 B1 m wt now dr1 hn1 (fB B1 x) hf) rfl rfl rfl) (fun r2 _ => ?_)
          refine L_nil ?_
          refine K_then ?_
          refine J_seq ?_
          refine J_region ?_
          refine L_v (opv_move rfl) rfl ?_
          refine L_v (opv_move rfl) rfl ?_
          refine L_v (opv_nilCheck rfl) rfl ?_
          first
            | refine L_v (opv_fieldAddr0 rfl) rfl ?_
            | refine L_v (opv_fieldAddr rfl) rfl ?_
          refine L_v (opv_load rfl (Rd.look rfl)) rfl ?_
          first
            | refine L_v (opv_add64 rfl rfl (by omega)) rfl ?_
            | refine L_v (opv_addS rfl rfl (by omega)) rfl ?_
            | refine L_v (opv_add rfl rfl) rfl ?_
          refine L_v (opv_nilCheck rfl) rfl ?_
          first
            | refine L_v (opv_fieldAddr0 rfl) rfl ?_
            | refine L_v (opv_fieldAddr rfl) rfl ?_
          refine L_x rfl (opx_store rfl rfl rfl (by simp [Value.oneCell'])) (fun _ _ => ?_)
          refine L_nil ?_
          refine K_then ?_
          refine J_seq ?_
          refine J_region ?_
          refine L_v (opv_build rfl) rfl ?_
          refine L_v (opv_move rfl) rfl ?_
          refine L_x rfl (opx_store rfl rfl rfl (by simp [Value.oneCell'])) (fun _ _ => ?_)
          refine L_v (opv_assign rfl) rfl ?_
          refine L_v (opv_assign rfl) rfl ?_
          refine L_nil ?_
          refine K_then ?_
          refine J_ret ?_
          refine K_then_ret ?_
          have e : sndC x y.data.size = 11 := by unfold sndC; rw [if_neg (by omega), if_neg h4, if_pos (by omega)]
          rw [e]
          exact K_ret3c rfl rfl rfl rfl rfl r2 trivial rfl (Ent.take (Q := (sep ((sep (Own 73 10 (.slice r2.1 (B1.take (fB B1 x) ++ B1.drop ((fB B1 x) + 1)).length r2.2) (B1.take (fB B1 x) ++ B1.drop ((fB B1 x) + 1)).length ((B1.take (fB B1 x) ++ B1.drop ((fB B1 x) + 1)).flatMap encB)) (cel rp [.slice r2.1 (B1.take (fB B1 x) ++ B1.drop ((fB B1 x) + 1)).length r2.2, .int .i64 m, .int .i64 wt, .int .i64 now, .int .i64 (dr1 + 1)] 67))) (F))))
    · refine L_gf_off h2 rfl rfl ?_ (fun _ h => by cases h; rfl)
      refine L_gf_off h2 rfl rfl ?_ (fun _ h => by cases h; rfl)
      refine L_gf_off h2 rfl rfl ?_ (fun _ h => by cases h; rfl)
      refine L_gf_off h2 rfl rfl ?_ (fun _ h => by cases h; rfl)
      refine L_gf_off h2 rfl rfl ?_ (fun _ h => by cases h; rfl)
      refine L_v (opv_pick_t rfl h2 rfl) rfl ?_
      refine L_nil ?_
      refine K_then ?_
      refine J_cond_true rfl ?_
      refine J_region ?_
      refine L_v (opv_assign rfl) rfl ?_
      refine L_nil ?_
      refine K_then ?_
      refine J_seq ?_
      refine J_seq ?_
      refine J_region ?_
      refine L_v (opv_move rfl) rfl ?_
      first
        | refine L_v ((opv_neq rfl rfl).bool_t (by decide)) rfl ?_
        | refine L_v ((opv_neq rfl rfl).bool_f (by decide)) rfl ?_
      refine L_nil ?_
      refine K_then ?_
      refine J_cond_true rfl ?_
      refine J_seq ?_
      refine J_region ?_
      refine L_v (opv_move rfl) rfl ?_
      refine L_v (opv_move rfl) rfl ?_
      refine L_x rfl (opx_call0 (Rdrop_spec rp (some (ad b o)) c1 B1 m wt now dr1 hn1 (fB B1 x) hf) rfl rfl rfl) (fun r2 _ => ?_)
      refine L_nil ?_
      refine K_then ?_
      refine J_seq ?_
      refine J_region ?_
      refine L_v (opv_move rfl) rfl ?_
      refine L_v (opv_move rfl) rfl ?_
      refine L_v (opv_nilCheck rfl) rfl ?_
      first
        | refine L_v (opv_fieldAddr0 rfl) rfl ?_
        | refine L_v (opv_fieldAddr rfl) rfl ?_
      refine L_v (opv_load rfl (Rd.look rfl)) rfl ?_
      first
        | refine L_v (opv_add64 rfl rfl (by omega)) rfl ?_
        | refine L_v (opv_addS rfl rfl (by omega)) rfl ?_
        | refine L_v (opv_add rfl rfl) rfl ?_
      refine L_v (opv_nilCheck rfl) rfl ?_
      first
        | refine L_v (opv_fieldAddr0 rfl) rfl ?_
        | refine L_v (opv_fieldAddr rfl) rfl ?_
      refine L_x rfl (opx_store rfl rfl rfl (by simp [Value.oneCell'])) (fun _ _ => ?_)
      refine L_nil ?_
      refine K_then ?_
      refine J_seq ?_
      refine J_region ?_
      refine L_v (opv_build rfl) rfl ?_
      refine L_v (opv_move rfl) rfl ?_
      refine L_x rfl (opx_store rfl rfl rfl (by simp [Value.oneCell'])) (fun _ _ => ?_)
      refine L_v (opv_assign rfl) rfl ?_
      refine L_v (opv_assign rfl) rfl ?_
      refine L_nil ?_
      refine K_then ?_
      refine J_ret ?_
      refine K_then_ret ?_
      have e : sndC x y.data.size = 25 := by unfold sndC; rw [if_pos (by omega)]
      rw [e]
      exact K_ret3c rfl rfl rfl rfl rfl r2 trivial rfl (Ent.take (Q := (sep ((sep (Own 73 10 (.slice r2.1 (B1.take (fB B1 x) ++ B1.drop ((fB B1 x) + 1)).length r2.2) (B1.take (fB B1 x) ++ B1.drop ((fB B1 x) + 1)).length ((B1.take (fB B1 x) ++ B1.drop ((fB B1 x) + 1)).flatMap encB)) (cel rp [.slice r2.1 (B1.take (fB B1 x) ++ B1.drop ((fB B1 x) + 1)).length r2.2, .int .i64 m, .int .i64 wt, .int .i64 now, .int .i64 (dr1 + 1)] 67))) (F))))
  · refine L_gt_off h1 rfl rfl ?_ (fun _ h => by cases h; rfl)
    refine L_gt_off h1 rfl rfl ?_ (fun _ h => by cases h; rfl)
    refine L_v (opv_pick_f rfl h1 rfl) rfl ?_
    refine L_nil ?_
    refine K_then ?_
    refine J_cond_false rfl ?_
    refine J_skip ?_
    refine K_then ?_
    refine J_seq ?_
    refine J_region ?_
    refine L_v (opv_move rfl) rfl ?_
    refine L_v (opv_loadS rfl) rfl ?_
    refine L_x rfl (opx_call0 (Rfind_spec rp r.1 r.2 B1 m wt now dr1 hn1 x hx hB) rfl rfl rfl) (fun _ _ => ?_)
    rw [if_pos hf]
    refine L_v (opv_assign rfl) rfl ?_
    refine L_nil ?_
    refine K_then ?_
    refine J_seq ?_
    refine J_seq ?_
    refine J_region ?_
    first
      | refine L_v (opv_fieldAddr0 rfl) rfl ?_
      | refine L_v (opv_fieldAddr rfl) rfl ?_
    refine L_v (opv_load rfl (Rd.look rfl)) rfl ?_
    refine L_v ((opv_eql rfl rfl).bool_f ho) rfl ?_
    refine L_nil ?_
    refine K_then ?_
    refine J_cond_false rfl ?_
    refine J_skip ?_
    refine K_then ?_
    refine J_seq ?_
    refine J_seq ?_
    refine J_region ?_
    refine L_v (opv_move rfl) rfl ?_
    refine L_v ((opv_lss rfl rfl).bool_f (by omega)) rfl ?_
    refine L_nil ?_
    refine K_then ?_
    refine J_cond_false rfl ?_
    refine J_skip ?_
    refine K_then ?_
    refine J_seq ?_
    obtain ⟨A1, c1⟩ := r
    refine J_imp (sep (Own 73 10 (.slice A1 B1.length c1) B1.length (B1.flatMap encB)) (sep (cel rp [.slice A1 B1.length c1, .int .i64 m, .int .i64 wt, .int .i64 now, .int .i64 dr1] 67) (sep (cel b5 [.int .i64 x.id, .bool x.more, .int .i64 x.off, .int .i64 x.ttl, .int .i64 x.proto, .string (bytesL [x.s0, x.s1, x.s2, x.s3]), .string (bytesL [x.d0, x.d1, x.d2, x.d3]), .string x.data] 36) (sep (cel b6 [.int .i64 0, .bool false, .int .i64 0, .int .i64 0, .int .i64 0, .string ⟨#[]⟩, .string ⟨#[]⟩, .string ⟨#[]⟩] 36) (F))))) ?_ ?_
    · exact Ent.take
    refine J_know (fun w hs => own_nonnil hs) fun hA => ?_
    obtain ⟨b, o, rfl⟩ : ∃ b o, A1 = some (ad b o) := by rcases hA with ⟨_, _, h, _⟩ | h; omega; exact h
    refine J_region ?_
    refine L_v (opv_move rfl) rfl ?_
    refine L_v (opv_nilCheck rfl) rfl ?_
    first
      | refine L_v (opv_fieldAddr0 rfl) rfl ?_
      | refine L_v (opv_fieldAddr rfl) rfl ?_
    refine L_v (opv_load rfl (Rd.look rfl)) rfl ?_
    refine L_v (opv_move rfl) rfl ?_
    first
      | refine L_v (opv_indexAddr rfl rfl (by omega)) rfl ?_
      | refine L_v (opv_indexAddrA rfl rfl (by omega)) rfl ?_
    first
      | refine L_v (opv_fieldAddr0 rfl) rfl ?_
      | refine L_v (opv_fieldAddr rfl) rfl ?_
    refine L_v (opv_load rfl (Rd.of_take (S := Own 73 10 (.slice (some (ad b o)) B1.length c1) B1.length (B1.flatMap encB)) ((RdS.own (m := 10) (e := 73) (c := c1) (xs := B1) encB_len (.inr ⟨b, o, rfl⟩)).rd b o rfl (fB B1 x) y 9 _ hy rfl))) rfl ?_
    refine L_v (opv_assign rfl) rfl ?_
    refine L_nil ?_
    refine K_then ?_
    refine J_seq ?_
    refine J_region ?_
    refine L_v (opv_assign rfl) rfl ?_
    refine L_nil ?_
    refine K_then ?_
    refine J_seq ?_
    refine J_seq ?_
    refine J_region ?_
    refine L_v (opv_move rfl) rfl ?_
    first
      | refine L_v (opv_lenL rfl) rfl ?_
      | refine L_v (opv_lenS rfl) rfl ?_
    refine L_v ((opv_remP rfl rfl (by omega)).as (v' := .int .i64 ((y.data.size % 8 : Nat) : Int)) rfl) rfl ?_
    first
      | refine L_v (opv_neq rfl rfl) rfl ?_
      | refine L_v (opv_neqS rfl rfl) rfl ?_
      | refine L_v (opv_neqNil rfl rfl) rfl ?_
      | refine L_v (opv_neqB rfl rfl) rfl ?_
    refine L_v (opv_move rfl) rfl ?_
    refine L_gf rfl rfl (fun h6 => ?_) (fun h6 => ?_) (fun _ h => by cases h; rfl)
    · first
        | refine L_v (opv_fieldAddr0 rfl) rfl ?_
        | refine L_v (opv_fieldAddr rfl) rfl ?_
      refine L_gf_on h6 rfl rfl ?_
      refine L_v (opv_load rfl (Rd.look rfl)) rfl ?_
      refine L_gf_on h6 rfl rfl ?_
      refine L_v (opv_move rfl) rfl ?_
      refine L_gf_on h6 rfl rfl ?_
      first
        | refine L_v (opv_lenL rfl) rfl ?_
        | refine L_v (opv_lenS rfl) rfl ?_
      refine L_gf_on h6 rfl rfl ?_
      refine L_v ((opv_quoP rfl rfl (by omega)).as (v' := .int .i64 ((y.data.size / 8 : Nat) : Int)) rfl) rfl ?_
      refine L_gf_on h6 rfl rfl ?_
      first
        | refine L_v (opv_neq rfl rfl) rfl ?_
        | refine L_v (opv_neqS rfl rfl) rfl ?_
        | refine L_v (opv_neqNil rfl rfl) rfl ?_
        | refine L_v (opv_neqB rfl rfl) rfl ?_
      refine L_v (opv_pick_f rfl h6 rfl) rfl ?_
      refine L_nil ?_
      refine K_then ?_
      refine J_cond rfl (fun h7 => ?_) (fun h7 => ?_)
      · refine J_region ?_
        refine L_v (opv_assign rfl) rfl ?_
        refine L_nil ?_
        refine K_then ?_
        refine J_seq ?_
        refine J_seq ?_
        refine J_region ?_
        refine L_v (opv_move rfl) rfl ?_
        first
          | refine L_v ((opv_neq rfl rfl).bool_t (by decide)) rfl ?_
          | refine L_v ((opv_neq rfl rfl).bool_f (by decide)) rfl ?_
        refine L_nil ?_
        refine K_then ?_
        refine J_cond_true rfl ?_
        refine J_seq ?_
        refine J_region ?_
        refine L_v (opv_move rfl) rfl ?_
        refine L_v (opv_move rfl) rfl ?_
        refine L_x rfl (opx_call0 (Rdrop_spec rp (some (ad b o)) c1 B1 m wt now dr1 hn1 (fB B1 x) hf) rfl rfl rfl) (fun r2 _ => ?_)
        refine L_nil ?_
        refine K_then ?_
        refine J_seq ?_
        refine J_region ?_
        refine L_v (opv_move rfl) rfl ?_
        refine L_v (opv_move rfl) rfl ?_
        refine L_v (opv_nilCheck rfl) rfl ?_
        first
          | refine L_v (opv_fieldAddr0 rfl) rfl ?_
          | refine L_v (opv_fieldAddr rfl) rfl ?_
        refine L_v (opv_load rfl (Rd.look rfl)) rfl ?_
        first
          | refine L_v (opv_add64 rfl rfl (by omega)) rfl ?_
          | refine L_v (opv_addS rfl rfl (by omega)) rfl ?_
          | refine L_v (opv_add rfl rfl) rfl ?_
        refine L_v (opv_nilCheck rfl) rfl ?_
        first
          | refine L_v (opv_fieldAddr0 rfl) rfl ?_
          | refine L_v (opv_fieldAddr rfl) rfl ?_
        refine L_x rfl (opx_store rfl rfl rfl (by simp [Value.oneCell'])) (fun _ _ => ?_)
        refine L_nil ?_
        refine K_then ?_
        refine J_seq ?_
        refine J_region ?_
        refine L_v (opv_build rfl) rfl ?_
        refine L_v (opv_move rfl) rfl ?_
        refine L_x rfl (opx_store rfl rfl rfl (by simp [Value.oneCell'])) (fun _ _ => ?_)
        refine L_v (opv_assign rfl) rfl ?_
        refine L_v (opv_assign rfl) rfl ?_
        refine L_nil ?_
        refine K_then ?_
        refine J_ret ?_
        refine K_then_ret ?_
        have e : sndC x y.data.size = 25 := by unfold sndC; rw [if_pos (by omega)]
        rw [e]
        exact K_ret3c rfl rfl rfl rfl rfl r2 trivial rfl (Ent.take (Q := (sep ((sep (Own 73 10 (.slice r2.1 (B1.take (fB B1 x) ++ B1.drop ((fB B1 x) + 1)).length r2.2) (B1.take (fB B1 x) ++ B1.drop ((fB B1 x) + 1)).length ((B1.take (fB B1 x) ++ B1.drop ((fB B1 x) + 1)).flatMap encB)) (cel rp [.slice r2.1 (B1.take (fB B1 x) ++ B1.drop ((fB B1 x) + 1)).length r2.2, .int .i64 m, .int .i64 wt, .int .i64 now, .int .i64 (dr1 + 1)] 67))) (F))))
      · refine J_seq ?_
        refine J_region ?_
        refine L_v (opv_loadS rfl) rfl ?_
        refine L_x rfl (opx_call0 (wrong_spec x) rfl rfl rfl) (fun _ _ => ?_)
        refine L_emp ?_
        refine L_nil ?_
        refine K_then ?_
        refine J_cond rfl (fun h8 => ?_) (fun h8 => ?_)
        · refine J_region ?_
          refine L_v (opv_assign rfl) rfl ?_
          refine L_nil ?_
          refine K_then ?_
          refine J_seq ?_
          refine J_seq ?_
          refine J_region ?_
          refine L_v (opv_move rfl) rfl ?_
          first
            | refine L_v ((opv_neq rfl rfl).bool_t (by decide)) rfl ?_
            | refine L_v ((opv_neq rfl rfl).bool_f (by decide)) rfl ?_
          refine L_nil ?_
          refine K_then ?_
          refine J_cond_true rfl ?_
          refine J_seq ?_
          refine J_region ?_
          refine L_v (opv_move rfl) rfl ?_
          refine L_v (opv_move rfl) rfl ?_
          refine L_x rfl (opx_call0 (Rdrop_spec rp (some (ad b o)) c1 B1 m wt now dr1 hn1 (fB B1 x) hf) rfl rfl rfl) (fun r2 _ => ?_)
          refine L_nil ?_
          refine K_then ?_
          refine J_seq ?_
          refine J_region ?_
          refine L_v (opv_move rfl) rfl ?_
          refine L_v (opv_move rfl) rfl ?_
          refine L_v (opv_nilCheck rfl) rfl ?_
          first
            | refine L_v (opv_fieldAddr0 rfl) rfl ?_
            | refine L_v (opv_fieldAddr rfl) rfl ?_
          refine L_v (opv_load rfl (Rd.look rfl)) rfl ?_
          first
            | refine L_v (opv_add64 rfl rfl (by omega)) rfl ?_
            | refine L_v (opv_addS rfl rfl (by omega)) rfl ?_
            | refine L_v (opv_add rfl rfl) rfl ?_
          refine L_v (opv_nilCheck rfl) rfl ?_
          first
            | refine L_v (opv_fieldAddr0 rfl) rfl ?_
            | refine L_v (opv_fieldAddr rfl) rfl ?_
          refine L_x rfl (opx_store rfl rfl rfl (by simp [Value.oneCell'])) (fun _ _ => ?_)
          refine L_nil ?_
          refine K_then ?_
          refine J_seq ?_
          refine J_region ?_
          refine L_v (opv_build rfl) rfl ?_
          refine L_v (opv_move rfl) rfl ?_
          refine L_x rfl (opx_store rfl rfl rfl (by simp [Value.oneCell'])) (fun _ _ => ?_)
          refine L_v (opv_assign rfl) rfl ?_
          refine L_v (opv_assign rfl) rfl ?_
          refine L_nil ?_
          refine K_then ?_
          refine J_ret ?_
          refine K_then_ret ?_
          have e : sndC x y.data.size = 15 := by unfold sndC; rw [if_neg (by omega), if_pos h8]
          rw [e]
          exact K_ret3c rfl rfl rfl rfl rfl r2 trivial rfl (Ent.take (Q := (sep ((sep (Own 73 10 (.slice r2.1 (B1.take (fB B1 x) ++ B1.drop ((fB B1 x) + 1)).length r2.2) (B1.take (fB B1 x) ++ B1.drop ((fB B1 x) + 1)).length ((B1.take (fB B1 x) ++ B1.drop ((fB B1 x) + 1)).flatMap encB)) (cel rp [.slice r2.1 (B1.take (fB B1 x) ++ B1.drop ((fB B1 x) + 1)).length r2.2, .int .i64 m, .int .i64 wt, .int .i64 now, .int .i64 (dr1 + 1)] 67))) (F))))
        · refine J_seq ?_
          refine J_region ?_
          refine L_v (opv_move rfl) rfl ?_
          first
            | refine L_v (opv_lenL rfl) rfl ?_
            | refine L_v (opv_lenS rfl) rfl ?_
          first
            | refine L_v (opv_fieldAddr0 rfl) rfl ?_
            | refine L_v (opv_fieldAddr rfl) rfl ?_
          refine L_v (opv_load rfl (Rd.look rfl)) rfl ?_
          first
            | refine L_v (opv_lenL rfl) rfl ?_
            | refine L_v (opv_lenS rfl) rfl ?_
          refine L_v ((opv_add64 rfl rfl (by omega))) rfl ?_
          refine L_v (opv_gtr rfl rfl) rfl ?_
          refine L_nil ?_
          refine K_then ?_
          refine J_cond rfl (fun h9 => ?_) (fun h9 => absurd (by unfold sndC; rw [if_neg (by omega), if_neg h8, if_neg (by omega)]) hs)
          refine J_region ?_
          refine L_v (opv_assign rfl) rfl ?_
          refine L_nil ?_
          refine K_then ?_
          refine J_seq ?_
          refine J_seq ?_
          refine J_region ?_
          refine L_v (opv_move rfl) rfl ?_
          first
            | refine L_v ((opv_neq rfl rfl).bool_t (by decide)) rfl ?_
            | refine L_v ((opv_neq rfl rfl).bool_f (by decide)) rfl ?_
          refine L_nil ?_
          refine K_then ?_
          refine J_cond_true rfl ?_
          refine J_seq ?_
          refine J_region ?_
          refine L_v (opv_move rfl) rfl ?_
          refine L_v (opv_move rfl) rfl ?_
          refine L_x rfl (opx_call0 (Rdrop_spec rp (some (ad b o)) c1 B1 m wt now dr1 hn1 (fB B1 x) hf) rfl rfl rfl) (fun r2 _ => ?_)
          refine L_nil ?_
          refine K_then ?_
          refine J_seq ?_
          refine J_region ?_
          refine L_v (opv_move rfl) rfl ?_
          refine L_v (opv_move rfl) rfl ?_
          refine L_v (opv_nilCheck rfl) rfl ?_
          first
            | refine L_v (opv_fieldAddr0 rfl) rfl ?_
            | refine L_v (opv_fieldAddr rfl) rfl ?_
          refine L_v (opv_load rfl (Rd.look rfl)) rfl ?_
          first
            | refine L_v (opv_add64 rfl rfl (by omega)) rfl ?_
            | refine L_v (opv_addS rfl rfl (by omega)) rfl ?_
            | refine L_v (opv_add rfl rfl) rfl ?_
          refine L_v (opv_nilCheck rfl) rfl ?_
          first
            | refine L_v (opv_fieldAddr0 rfl) rfl ?_
            | refine L_v (opv_fieldAddr rfl) rfl ?_
          refine L_x rfl (opx_store rfl rfl rfl (by simp [Value.oneCell'])) (fun _ _ => ?_)
          refine L_nil ?_
          refine K_then ?_
          refine J_seq ?_
          refine J_region ?_
          refine L_v (opv_build rfl) rfl ?_
          refine L_v (opv_move rfl) rfl ?_
          refine L_x rfl (opx_store rfl rfl rfl (by simp [Value.oneCell'])) (fun _ _ => ?_)
          refine L_v (opv_assign rfl) rfl ?_
          refine L_v (opv_assign rfl) rfl ?_
          refine L_nil ?_
          refine K_then ?_
          refine J_ret ?_
          refine K_then_ret ?_
          have e : sndC x y.data.size = 11 := by unfold sndC; rw [if_neg (by omega), if_neg h8, if_pos (by omega)]
          rw [e]
          exact K_ret3c rfl rfl rfl rfl rfl r2 trivial rfl (Ent.take (Q := (sep ((sep (Own 73 10 (.slice r2.1 (B1.take (fB B1 x) ++ B1.drop ((fB B1 x) + 1)).length r2.2) (B1.take (fB B1 x) ++ B1.drop ((fB B1 x) + 1)).length ((B1.take (fB B1 x) ++ B1.drop ((fB B1 x) + 1)).flatMap encB)) (cel rp [.slice r2.1 (B1.take (fB B1 x) ++ B1.drop ((fB B1 x) + 1)).length r2.2, .int .i64 m, .int .i64 wt, .int .i64 now, .int .i64 (dr1 + 1)] 67))) (F))))
    · refine L_gf_off h6 rfl rfl ?_ (fun _ h => by cases h; rfl)
      refine L_gf_off h6 rfl rfl ?_ (fun _ h => by cases h; rfl)
      refine L_gf_off h6 rfl rfl ?_ (fun _ h => by cases h; rfl)
      refine L_gf_off h6 rfl rfl ?_ (fun _ h => by cases h; rfl)
      refine L_gf_off h6 rfl rfl ?_ (fun _ h => by cases h; rfl)
      refine L_v (opv_pick_t rfl h6 rfl) rfl ?_
      refine L_nil ?_
      refine K_then ?_
      refine J_cond_true rfl ?_
      refine J_region ?_
      refine L_v (opv_assign rfl) rfl ?_
      refine L_nil ?_
      refine K_then ?_
      refine J_seq ?_
      refine J_seq ?_
      refine J_region ?_
      refine L_v (opv_move rfl) rfl ?_
      first
        | refine L_v ((opv_neq rfl rfl).bool_t (by decide)) rfl ?_
        | refine L_v ((opv_neq rfl rfl).bool_f (by decide)) rfl ?_
      refine L_nil ?_
      refine K_then ?_
      refine J_cond_true rfl ?_
      refine J_seq ?_
      refine J_region ?_
      refine L_v (opv_move rfl) rfl ?_
      refine L_v (opv_move rfl) rfl ?_
      refine L_x rfl (opx_call0 (Rdrop_spec rp (some (ad b o)) c1 B1 m wt now dr1 hn1 (fB B1 x) hf) rfl rfl rfl) (fun r2 _ => ?_)
      refine L_nil ?_
      refine K_then ?_
      refine J_seq ?_
      refine J_region ?_
      refine L_v (opv_move rfl) rfl ?_
      refine L_v (opv_move rfl) rfl ?_
      refine L_v (opv_nilCheck rfl) rfl ?_
      first
        | refine L_v (opv_fieldAddr0 rfl) rfl ?_
        | refine L_v (opv_fieldAddr rfl) rfl ?_
      refine L_v (opv_load rfl (Rd.look rfl)) rfl ?_
      first
        | refine L_v (opv_add64 rfl rfl (by omega)) rfl ?_
        | refine L_v (opv_addS rfl rfl (by omega)) rfl ?_
        | refine L_v (opv_add rfl rfl) rfl ?_
      refine L_v (opv_nilCheck rfl) rfl ?_
      first
        | refine L_v (opv_fieldAddr0 rfl) rfl ?_
        | refine L_v (opv_fieldAddr rfl) rfl ?_
      refine L_x rfl (opx_store rfl rfl rfl (by simp [Value.oneCell'])) (fun _ _ => ?_)
      refine L_nil ?_
      refine K_then ?_
      refine J_seq ?_
      refine J_region ?_
      refine L_v (opv_build rfl) rfl ?_
      refine L_v (opv_move rfl) rfl ?_
      refine L_x rfl (opx_store rfl rfl rfl (by simp [Value.oneCell'])) (fun _ _ => ?_)
      refine L_v (opv_assign rfl) rfl ?_
      refine L_v (opv_assign rfl) rfl ?_
      refine L_nil ?_
      refine K_then ?_
      refine J_ret ?_
      refine K_then_ret ?_
      have e : sndC x y.data.size = 25 := by unfold sndC; rw [if_pos (by omega)]
      rw [e]
      exact K_ret3c rfl rfl rfl rfl rfl r2 trivial rfl (Ent.take (Q := (sep ((sep (Own 73 10 (.slice r2.1 (B1.take (fB B1 x) ++ B1.drop ((fB B1 x) + 1)).length r2.2) (B1.take (fB B1 x) ++ B1.drop ((fB B1 x) + 1)).length ((B1.take (fB B1 x) ++ B1.drop ((fB B1 x) + 1)).flatMap encB)) (cel rp [.slice r2.1 (B1.take (fB B1 x) ++ B1.drop ((fB B1 x) + 1)).length r2.2, .int .i64 m, .int .i64 wt, .int .i64 now, .int .i64 (dr1 + 1)] 67))) (F))))

set_option maxHeartbeats 800000 in
theorem RPut_more (rp : Nat) (A : Option Addr) (c : Nat) (B : List Bgr) (m wt now0 dr : Int) (hn : B.length ≤ 1000000) (now : Int) (x : Pk) (hx : okA x) (h : timC now0 now = 0) (h0 : 0 ≤ now0) (hwt : 0 ≤ wt ∧ wt ≤ 1125899906842624) (hb : ∀ b ∈ B, 0 ≤ b.t ∧ b.t ≤ 1125899906842624) (hdr : 0 ≤ dr ∧ dr ≤ 1000000) (B1 : List Bgr) (dr1 : Int) (h1 : B.filter (keepB wt now) = B1) (h2 : dr + B.length - B1.length = dr1) (hB : ∀ b ∈ B1, okA b.p) (hn1 : B1.length ≤ 1000000) (hd1 : 0 ≤ dr1 ∧ dr1 ≤ 1000000) (hxd : x.data.size ≤ 1000000) (ho : x.off ≠ 0) (hf : fB B1 x < B1.length) (y : Bgr) (hy : B1[fB B1 x]? = some y) (hyd : y.data.size ≤ 8200) (hs : sndC x y.data.size = 0) (hm : x.more = true) : FSpec Try.prog 33 #[.pointer (some (ad rp 0)), .int .i64 now, .agg [.int .i64 x.id, .bool x.more, .int .i64 x.off, .int .i64 x.ttl, .int .i64 x.proto, .string (bytesL [x.s0, x.s1, x.s2, x.s3]), .string (bytesL [x.d0, x.d1, x.d2, x.d3]), .string x.data].toArray] ((sep (Own 73 10 (.slice A B.length c) B.length (B.flatMap encB)) (cel rp [.slice A B.length c, .int .i64 m, .int .i64 wt, .int .i64 now0, .int .i64 dr] 67))) (fun r : Option Addr × Nat => True) (fun r => .tuple #[.agg [.int .i64 0, .bool false, .int .i64 0, .int .i64 0, .int .i64 0, .string ⟨#[]⟩, .string ⟨#[]⟩, .string ⟨#[]⟩].toArray, .bool false, .int .i64 0]) (fun r => (sep (Own 73 10 (.slice r.1 (B1.set (fB B1 x) (⟨y.p, y.t, y.data ++ x.data⟩ : Bgr)).length r.2) (B1.set (fB B1 x) (⟨y.p, y.t, y.data ++ x.data⟩ : Bgr)).length ((B1.set (fB B1 x) (⟨y.p, y.t, y.data ++ x.data⟩ : Bgr)).flatMap encB)) (cel rp [.slice r.1 (B1.set (fB B1 x) (⟨y.p, y.t, y.data ++ x.data⟩ : Bgr)).length r.2, .int .i64 m, .int .i64 wt, .int .i64 now, .int .i64 dr1] 67))) := by
  obtain ⟨hs1, hs2, hs3⟩ : (y.data.size % 8 = 0 ∧ x.off = ((y.data.size / 8 : Nat) : Int)) ∧ ¬ (x.more = true ∧ (x.data.size = 0 ∨ x.data.size % 8 ≠ 0)) ∧ y.data.size + x.data.size ≤ 8200 := by
    unfold sndC at hs
    split at hs
    · cases hs
    · split at hs
      · cases hs
      · split at hs
        · cases hs
        · exact ⟨by omega, by assumption, by omega⟩
  have hfl := flat_len encB_len B1
  refine FSpec.enter' Try.func33 rfl Try.ntmps33 rfl fun σ F => ?_
  refine J_seq ?_
  refine J_region ?_
  refine L_x rfl (opx_box (l := [.int .i64 x.id, .bool x.more, .int .i64 x.off, .int .i64 x.ttl, .int .i64 x.proto, .string (bytesL [x.s0, x.s1, x.s2, x.s3]), .string (bytesL [x.d0, x.d1, x.d2, x.d3]), .string x.data]) rfl rfl) (fun b5 _ => ?_)
  refine L_x rfl (opx_alloc rfl) (fun b6 _ => ?_)
  refine L_v (opv_assign rfl) rfl ?_
  refine L_v (opv_assign rfl) rfl ?_
  refine L_nil ?_
  refine K_then ?_
  refine J_seq ?_
  refine J_region ?_
  refine L_v (opv_move rfl) rfl ?_
  refine L_v (opv_move rfl) rfl ?_
  refine L_x rfl (opx_call0 (RPass_z rp A c B m wt now0 dr hn now h h0 hwt hb hdr B1 dr1 h1 h2) rfl rfl rfl) (fun r _ => ?_)
  refine L_v (opv_assign rfl) rfl ?_
  refine L_nil ?_
  refine K_then ?_
  refine J_seq ?_
  refine J_seq ?_
  refine J_region ?_
  refine L_v (opv_move rfl) rfl ?_
  refine L_v ((opv_neq rfl rfl).bool_f (by decide)) rfl ?_
  refine L_nil ?_
  refine K_then ?_
  refine J_cond_false rfl ?_
  refine J_skip ?_
  refine K_then ?_
  refine J_seq ?_
  refine J_seq ?_
  refine J_region ?_
  first
    | refine L_v (opv_fieldAddr0 rfl) rfl ?_
    | refine L_v (opv_fieldAddr rfl) rfl ?_
  refine L_v ((opv_load rfl (Rd.look rfl)).as (v' := .bool (decide (x.more = true))) (by simp)) rfl ?_
  refine L_v ((opv_notD rfl)) rfl ?_
  refine L_v (opv_move rfl) rfl ?_
  refine L_gt rfl rfl (fun h1 => ?_) (fun h1 => ?_) (fun _ h => by cases h; rfl)
  · first
      | refine L_v (opv_fieldAddr0 rfl) rfl ?_
      | refine L_v (opv_fieldAddr rfl) rfl ?_
    refine L_gt_on h1 rfl rfl ?_
    refine L_v (opv_load rfl (Rd.look rfl)) rfl ?_
    refine L_gt_on h1 rfl rfl ?_
    refine L_v ((opv_eql rfl rfl).bool_f ho) rfl ?_
    refine L_v (opv_pick_t rfl h1 rfl) rfl ?_
    refine L_nil ?_
    refine K_then ?_
    refine J_cond_false rfl ?_
    refine J_skip ?_
    refine K_then ?_
    refine J_seq ?_
    refine J_region ?_
    refine L_v (opv_move rfl) rfl ?_
    refine L_v (opv_loadS rfl) rfl ?_
    refine L_x rfl (opx_call0 (Rfind_spec rp r.1 r.2 B1 m wt now dr1 hn1 x hx hB) rfl rfl rfl) (fun _ _ => ?_)
    rw [if_pos hf]
    refine L_v (opv_assign rfl) rfl ?_
    refine L_nil ?_
    refine K_then ?_
    refine J_seq ?_
    refine J_seq ?_
    refine J_region ?_
    first
      | refine L_v (opv_fieldAddr0 rfl) rfl ?_
      | refine L_v (opv_fieldAddr rfl) rfl ?_
    refine L_v (opv_load rfl (Rd.look rfl)) rfl ?_
    refine L_v ((opv_eql rfl rfl).bool_f ho) rfl ?_
    refine L_nil ?_
    refine K_then ?_
    refine J_cond_false rfl ?_
    refine J_skip ?_
    refine K_then ?_
    refine J_seq ?_
    refine J_seq ?_
    refine J_region ?_
    refine L_v (opv_move rfl) rfl ?_
    refine L_v ((opv_lss rfl rfl).bool_f (by omega)) rfl ?_
    refine L_nil ?_
    refine K_then ?_
    refine J_cond_false rfl ?_
    refine J_skip ?_
    refine K_then ?_
    refine J_seq ?_
    obtain ⟨A1, c1⟩ := r
    refine J_imp (sep (Own 73 10 (.slice A1 B1.length c1) B1.length (B1.flatMap encB)) (sep (cel rp [.slice A1 B1.length c1, .int .i64 m, .int .i64 wt, .int .i64 now, .int .i64 dr1] 67) (sep (cel b5 [.int .i64 x.id, .bool x.more, .int .i64 x.off, .int .i64 x.ttl, .int .i64 x.proto, .string (bytesL [x.s0, x.s1, x.s2, x.s3]), .string (bytesL [x.d0, x.d1, x.d2, x.d3]), .string x.data] 36) (sep (cel b6 [.int .i64 0, .bool false, .int .i64 0, .int .i64 0, .int .i64 0, .string ⟨#[]⟩, .string ⟨#[]⟩, .string ⟨#[]⟩] 36) (F))))) ?_ ?_
    · exact Ent.take
    refine J_own (fun e1 e2 e3 => absurd hf (by rw [e2]; exact Nat.not_lt_zero _)) (fun b cap pre post e1 e2 e3 e4 e5 => ?_)
    simp only [Value.slice.injEq] at e1
    obtain ⟨rfl, _, rfl⟩ := e1
    refine J_region ?_
    refine L_v (opv_move rfl) rfl ?_
    refine L_v (opv_nilCheck rfl) rfl ?_
    first
      | refine L_v (opv_fieldAddr0 rfl) rfl ?_
      | refine L_v (opv_fieldAddr rfl) rfl ?_
    refine L_v (opv_load rfl (Rd.look rfl)) rfl ?_
    refine L_v (opv_move rfl) rfl ?_
    first
      | refine L_v (opv_indexAddr rfl rfl (by omega)) rfl ?_
      | refine L_v (opv_indexAddrA rfl rfl (by omega)) rfl ?_
    first
      | refine L_v (opv_fieldAddr0 rfl) rfl ?_
      | refine L_v (opv_fieldAddr rfl) rfl ?_
    refine L_v (opv_load rfl (Rd.elem encB_len (q := B1) (j := 9) hy rfl)) rfl ?_
    refine L_v (opv_assign rfl) rfl ?_
    refine L_nil ?_
    refine K_then ?_
    refine J_seq ?_
    refine J_region ?_
    refine L_v (opv_assign rfl) rfl ?_
    refine L_nil ?_
    refine K_then ?_
    refine J_seq ?_
    refine J_seq ?_
    refine J_region ?_
    refine L_v (opv_move rfl) rfl ?_
    first
      | refine L_v (opv_lenL rfl) rfl ?_
      | refine L_v (opv_lenS rfl) rfl ?_
    refine L_v ((opv_remP rfl rfl (by omega)).as (v' := .int .i64 ((y.data.size % 8 : Nat) : Int)) rfl) rfl ?_
    refine L_v ((opv_neq rfl rfl).bool_f (by omega)) rfl ?_
    refine L_v (opv_move rfl) rfl ?_
    refine L_gon rfl rfl rfl ?_
    first
      | refine L_v (opv_fieldAddr0 rfl) rfl ?_
      | refine L_v (opv_fieldAddr rfl) rfl ?_
    refine L_gon rfl rfl rfl ?_
    refine L_v (opv_load rfl (Rd.look rfl)) rfl ?_
    refine L_gon rfl rfl rfl ?_
    refine L_v (opv_move rfl) rfl ?_
    refine L_gon rfl rfl rfl ?_
    first
      | refine L_v (opv_lenL rfl) rfl ?_
      | refine L_v (opv_lenS rfl) rfl ?_
    refine L_gon rfl rfl rfl ?_
    refine L_v ((opv_quoP rfl rfl (by omega)).as (v' := .int .i64 ((y.data.size / 8 : Nat) : Int)) rfl) rfl ?_
    refine L_gon rfl rfl rfl ?_
    refine L_v ((opv_neq rfl rfl).bool_f (by omega)) rfl ?_
    first
      | refine L_v (opv_pick_tt rfl rfl) rfl ?_
      | refine L_v (opv_pick_ff rfl rfl) rfl ?_
      | refine L_v (opv_pick rfl rfl rfl) rfl ?_
    refine L_nil ?_
    refine K_then ?_
    refine J_cond_false rfl ?_
    refine J_seq ?_
    refine J_region ?_
    refine L_v (opv_loadS rfl) rfl ?_
    refine L_x rfl (opx_call0 (wrong_spec x) rfl rfl rfl) (fun _ _ => ?_)
    refine L_emp ?_
    rw [decide_eq_false hs2]
    refine L_nil ?_
    refine K_then ?_
    refine J_cond_false rfl ?_
    refine J_seq ?_
    refine J_region ?_
    refine L_v (opv_move rfl) rfl ?_
    first
      | refine L_v (opv_lenL rfl) rfl ?_
      | refine L_v (opv_lenS rfl) rfl ?_
    first
      | refine L_v (opv_fieldAddr0 rfl) rfl ?_
      | refine L_v (opv_fieldAddr rfl) rfl ?_
    refine L_v (opv_load rfl (Rd.look rfl)) rfl ?_
    first
      | refine L_v (opv_lenL rfl) rfl ?_
      | refine L_v (opv_lenS rfl) rfl ?_
    refine L_v ((opv_add64 rfl rfl (by omega))) rfl ?_
    refine L_v ((opv_gtr rfl rfl).bool_f (by omega)) rfl ?_
    refine L_nil ?_
    refine K_then ?_
    refine J_cond_false rfl ?_
    refine J_skip ?_
    refine K_then ?_
    refine J_seq ?_
    refine J_seq ?_
    refine J_region ?_
    refine L_v (opv_move rfl) rfl ?_
    first
      | refine L_v ((opv_neq rfl rfl).bool_t (by decide)) rfl ?_
      | refine L_v ((opv_neq rfl rfl).bool_f (by decide)) rfl ?_
    refine L_nil ?_
    refine K_then ?_
    refine J_cond_false rfl ?_
    refine J_skip ?_
    refine K_then ?_
    refine J_seq ?_
    refine J_steps ((sep (cel rp [.slice (some (ad b pre.length)) B1.length c1, .int .i64 m, .int .i64 wt, .int .i64 now, .int .i64 dr1] 67) (cel b5 [.int .i64 x.id, .bool x.more, .int .i64 x.off, .int .i64 x.ttl, .int .i64 x.proto, .string (bytesL [x.s0, x.s1, x.s2, x.s3]), .string (bytesL [x.d0, x.d1, x.d2, x.d3]), .string x.data] 36))) ((sep (cel rp [.slice (some (ad b pre.length)) B1.length c1, .int .i64 m, .int .i64 wt, .int .i64 now, .int .i64 dr1] 67) (sep (cel b5 [.int .i64 x.id, .bool x.more, .int .i64 x.off, .int .i64 x.ttl, .int .i64 x.proto, .string (bytesL [x.s0, x.s1, x.s2, x.s3]), .string (bytesL [x.d0, x.d1, x.d2, x.d3]), .string x.data] 36) (cel b (pre ++ B1.flatMap encB ++ post) 73)))) [11] Try.mixed ?_
    refine R_pure 0 rfl (by kernel_rfl) (by kernel_rfl) (by kernel_rfl) (by kernel_rfl) (.inr ⟨_, Take.eq (A := (sep (cel rp [.slice (some (ad b pre.length)) B1.length c1, .int .i64 m, .int .i64 wt, .int .i64 now, .int .i64 dr1] 67) (sep (cel b5 [.int .i64 x.id, .bool x.more, .int .i64 x.off, .int .i64 x.ttl, .int .i64 x.proto, .string (bytesL [x.s0, x.s1, x.s2, x.s3]), .string (bytesL [x.d0, x.d1, x.d2, x.d3]), .string x.data] 36) (cel b (pre ++ B1.flatMap encB ++ post) 73))))⟩) (opv_move rfl) rfl ?_
    refine R_pure 1 rfl (by kernel_rfl) (by kernel_rfl) (by kernel_rfl) (by kernel_rfl) (.inr ⟨_, Take.eq (A := (sep (cel rp [.slice (some (ad b pre.length)) B1.length c1, .int .i64 m, .int .i64 wt, .int .i64 now, .int .i64 dr1] 67) (sep (cel b5 [.int .i64 x.id, .bool x.more, .int .i64 x.off, .int .i64 x.ttl, .int .i64 x.proto, .string (bytesL [x.s0, x.s1, x.s2, x.s3]), .string (bytesL [x.d0, x.d1, x.d2, x.d3]), .string x.data] 36) (cel b (pre ++ B1.flatMap encB ++ post) 73))))⟩) (opv_nilCheck rfl) rfl ?_
    first
      | refine R_pure 2 rfl (by kernel_rfl) (by kernel_rfl) (by kernel_rfl) (by kernel_rfl) (.inr ⟨_, Take.eq (A := (sep (cel rp [.slice (some (ad b pre.length)) B1.length c1, .int .i64 m, .int .i64 wt, .int .i64 now, .int .i64 dr1] 67) (sep (cel b5 [.int .i64 x.id, .bool x.more, .int .i64 x.off, .int .i64 x.ttl, .int .i64 x.proto, .string (bytesL [x.s0, x.s1, x.s2, x.s3]), .string (bytesL [x.d0, x.d1, x.d2, x.d3]), .string x.data] 36) (cel b (pre ++ B1.flatMap encB ++ post) 73))))⟩) (opv_fieldAddr0 rfl) rfl ?_
      | refine R_pure 2 rfl (by kernel_rfl) (by kernel_rfl) (by kernel_rfl) (by kernel_rfl) (.inr ⟨_, Take.eq (A := (sep (cel rp [.slice (some (ad b pre.length)) B1.length c1, .int .i64 m, .int .i64 wt, .int .i64 now, .int .i64 dr1] 67) (sep (cel b5 [.int .i64 x.id, .bool x.more, .int .i64 x.off, .int .i64 x.ttl, .int .i64 x.proto, .string (bytesL [x.s0, x.s1, x.s2, x.s3]), .string (bytesL [x.d0, x.d1, x.d2, x.d3]), .string x.data] 36) (cel b (pre ++ B1.flatMap encB ++ post) 73))))⟩) (opv_fieldAddr rfl) rfl ?_
    refine R_take 3 rfl (by kernel_rfl) (by kernel_rfl) (by kernel_rfl) (by kernel_rfl) (by kernel_rfl) (opv_load rfl (Rd.look rfl)) rfl ?_
    refine R_pure 4 rfl (by kernel_rfl) (by kernel_rfl) (by kernel_rfl) (by kernel_rfl) (.inr ⟨_, Take.eq (A := (sep (cel rp [.slice (some (ad b pre.length)) B1.length c1, .int .i64 m, .int .i64 wt, .int .i64 now, .int .i64 dr1] 67) (sep (cel b5 [.int .i64 x.id, .bool x.more, .int .i64 x.off, .int .i64 x.ttl, .int .i64 x.proto, .string (bytesL [x.s0, x.s1, x.s2, x.s3]), .string (bytesL [x.d0, x.d1, x.d2, x.d3]), .string x.data] 36) (cel b (pre ++ B1.flatMap encB ++ post) 73))))⟩) (opv_move rfl) rfl ?_
    refine R_pure 5 rfl (by kernel_rfl) (by kernel_rfl) (by kernel_rfl) (by kernel_rfl) (.inr ⟨_, Take.eq (A := (sep (cel rp [.slice (some (ad b pre.length)) B1.length c1, .int .i64 m, .int .i64 wt, .int .i64 now, .int .i64 dr1] 67) (sep (cel b5 [.int .i64 x.id, .bool x.more, .int .i64 x.off, .int .i64 x.ttl, .int .i64 x.proto, .string (bytesL [x.s0, x.s1, x.s2, x.s3]), .string (bytesL [x.d0, x.d1, x.d2, x.d3]), .string x.data] 36) (cel b (pre ++ B1.flatMap encB ++ post) 73))))⟩) (opv_move rfl) rfl ?_
    first
      | refine R_pure 6 rfl (by kernel_rfl) (by kernel_rfl) (by kernel_rfl) (by kernel_rfl) (.inr ⟨_, Take.eq (A := (sep (cel rp [.slice (some (ad b pre.length)) B1.length c1, .int .i64 m, .int .i64 wt, .int .i64 now, .int .i64 dr1] 67) (sep (cel b5 [.int .i64 x.id, .bool x.more, .int .i64 x.off, .int .i64 x.ttl, .int .i64 x.proto, .string (bytesL [x.s0, x.s1, x.s2, x.s3]), .string (bytesL [x.d0, x.d1, x.d2, x.d3]), .string x.data] 36) (cel b (pre ++ B1.flatMap encB ++ post) 73))))⟩) (opv_fieldAddr0 rfl) rfl ?_
      | refine R_pure 6 rfl (by kernel_rfl) (by kernel_rfl) (by kernel_rfl) (by kernel_rfl) (.inr ⟨_, Take.eq (A := (sep (cel rp [.slice (some (ad b pre.length)) B1.length c1, .int .i64 m, .int .i64 wt, .int .i64 now, .int .i64 dr1] 67) (sep (cel b5 [.int .i64 x.id, .bool x.more, .int .i64 x.off, .int .i64 x.ttl, .int .i64 x.proto, .string (bytesL [x.s0, x.s1, x.s2, x.s3]), .string (bytesL [x.d0, x.d1, x.d2, x.d3]), .string x.data] 36) (cel b (pre ++ B1.flatMap encB ++ post) 73))))⟩) (opv_fieldAddr rfl) rfl ?_
    refine R_take 7 rfl (by kernel_rfl) (by kernel_rfl) (by kernel_rfl) (by kernel_rfl) (by kernel_rfl) (opv_load rfl (Rd.look rfl)) rfl ?_
    refine R_pure 8 rfl (by kernel_rfl) (by kernel_rfl) (by kernel_rfl) (by kernel_rfl) (.inr ⟨_, Take.eq (A := (sep (cel rp [.slice (some (ad b pre.length)) B1.length c1, .int .i64 m, .int .i64 wt, .int .i64 now, .int .i64 dr1] 67) (sep (cel b5 [.int .i64 x.id, .bool x.more, .int .i64 x.off, .int .i64 x.ttl, .int .i64 x.proto, .string (bytesL [x.s0, x.s1, x.s2, x.s3]), .string (bytesL [x.d0, x.d1, x.d2, x.d3]), .string x.data] 36) (cel b (pre ++ B1.flatMap encB ++ post) 73))))⟩) ((opv_addS rfl rfl (by omega))) rfl ?_
    refine R_pure 9 rfl (by kernel_rfl) (by kernel_rfl) (by kernel_rfl) (by kernel_rfl) (.inr ⟨_, Take.eq (A := (sep (cel rp [.slice (some (ad b pre.length)) B1.length c1, .int .i64 m, .int .i64 wt, .int .i64 now, .int .i64 dr1] 67) (sep (cel b5 [.int .i64 x.id, .bool x.more, .int .i64 x.off, .int .i64 x.ttl, .int .i64 x.proto, .string (bytesL [x.s0, x.s1, x.s2, x.s3]), .string (bytesL [x.d0, x.d1, x.d2, x.d3]), .string x.data] 36) (cel b (pre ++ B1.flatMap encB ++ post) 73))))⟩) (opv_indexAddr rfl rfl (by omega)) rfl ?_
    first
      | refine R_pure 10 rfl (by kernel_rfl) (by kernel_rfl) (by kernel_rfl) (by kernel_rfl) (.inr ⟨_, Take.eq (A := (sep (cel rp [.slice (some (ad b pre.length)) B1.length c1, .int .i64 m, .int .i64 wt, .int .i64 now, .int .i64 dr1] 67) (sep (cel b5 [.int .i64 x.id, .bool x.more, .int .i64 x.off, .int .i64 x.ttl, .int .i64 x.proto, .string (bytesL [x.s0, x.s1, x.s2, x.s3]), .string (bytesL [x.d0, x.d1, x.d2, x.d3]), .string x.data] 36) (cel b (pre ++ B1.flatMap encB ++ post) 73))))⟩) (opv_fieldAddr0 rfl) rfl ?_
      | refine R_pure 10 rfl (by kernel_rfl) (by kernel_rfl) (by kernel_rfl) (by kernel_rfl) (.inr ⟨_, Take.eq (A := (sep (cel rp [.slice (some (ad b pre.length)) B1.length c1, .int .i64 m, .int .i64 wt, .int .i64 now, .int .i64 dr1] 67) (sep (cel b5 [.int .i64 x.id, .bool x.more, .int .i64 x.off, .int .i64 x.ttl, .int .i64 x.proto, .string (bytesL [x.s0, x.s1, x.s2, x.s3]), .string (bytesL [x.d0, x.d1, x.d2, x.d3]), .string x.data] 36) (cel b (pre ++ B1.flatMap encB ++ post) 73))))⟩) (opv_fieldAddr rfl) rfl ?_
    refine R_only 11 rfl rfl (by kernel_rfl) (opx_storeAt (m := 1) (vs := [.string (y.data ++ x.data)]) (l' := pre ++ (B1.set (fB B1 x) (⟨y.p, y.t, y.data ++ x.data⟩ : Bgr)).flatMap encB ++ post) rfl rfl rfl (by simp [Value.oneCell']) (by simp only [List.length_append, Int.toNat_natCast, List.length_singleton]; omega) (by rw [Int.toNat_natCast]; exact flat9 pre post hy)) (fun _ _ => ⟨_, Take.eq (A := (sep (cel rp [.slice (some (ad b pre.length)) B1.length c1, .int .i64 m, .int .i64 wt, .int .i64 now, .int .i64 dr1] 67) (cel b5 [.int .i64 x.id, .bool x.more, .int .i64 x.off, .int .i64 x.ttl, .int .i64 x.proto, .string (bytesL [x.s0, x.s1, x.s2, x.s3]), .string (bytesL [x.d0, x.d1, x.d2, x.d3]), .string x.data] 36)))⟩) (.inl (by kernel_rfl)) (fun _ _ => ?_)
    refine R_done (by kernel_rfl) ?_
    refine K_then ?_
    refine J_seq ?_
    refine J_seq ?_
    refine J_region ?_
    first
      | refine L_v (opv_fieldAddr0 rfl) rfl ?_
      | refine L_v (opv_fieldAddr rfl) rfl ?_
    refine L_v ((opv_load rfl (Rd.look rfl)).as (v' := .bool true) (by rw [hm])) rfl ?_
    refine L_nil ?_
    refine K_then ?_
    refine J_cond_true rfl ?_
    refine J_seq ?_
    refine J_region ?_
    refine L_v (opv_build rfl) rfl ?_
    refine L_x rfl (opx_store rfl rfl rfl (by simp [Value.oneCell'])) (fun _ _ => ?_)
    refine L_v (opv_assign rfl) rfl ?_
    refine L_v (opv_assign rfl) rfl ?_
    refine L_nil ?_
    refine K_then ?_
    refine J_ret ?_
    refine K_then_ret ?_
    exact K_ret3c rfl rfl rfl rfl rfl ((some (ad b pre.length)), c1) trivial rfl (Ent.trans (Ent.take (Q := (sep (cel b (pre ++ (B1.set (fB B1 x) (⟨y.p, y.t, y.data ++ x.data⟩ : Bgr)).flatMap encB ++ post) 73) (sep (cel rp [.slice (some (ad b pre.length)) B1.length c1, .int .i64 m, .int .i64 wt, .int .i64 now, .int .i64 dr1] 67) (F))))) (Ent.trans (Ent.frame (Own.mk (e := 73) (m := 10) (len := B1.length) (v := .slice (some (ad b pre.length)) B1.length c1) rfl e2 e3 (by rw [flat_len encB_len, List.length_set]) e5) _) (Ent.of (by rw [List.length_set, sep_assoc]))))
  · refine L_gt_off h1 rfl rfl ?_ (fun _ h => by cases h; rfl)
    refine L_gt_off h1 rfl rfl ?_ (fun _ h => by cases h; rfl)
    refine L_v (opv_pick_f rfl h1 rfl) rfl ?_
    refine L_nil ?_
    refine K_then ?_
    refine J_cond_false rfl ?_
    refine J_skip ?_
    refine K_then ?_
    refine J_seq ?_
    refine J_region ?_
    refine L_v (opv_move rfl) rfl ?_
    refine L_v (opv_loadS rfl) rfl ?_
    refine L_x rfl (opx_call0 (Rfind_spec rp r.1 r.2 B1 m wt now dr1 hn1 x hx hB) rfl rfl rfl) (fun _ _ => ?_)
    rw [if_pos hf]
    refine L_v (opv_assign rfl) rfl ?_
    refine L_nil ?_
    refine K_then ?_
    refine J_seq ?_
    refine J_seq ?_
    refine J_region ?_
    first
      | refine L_v (opv_fieldAddr0 rfl) rfl ?_
      | refine L_v (opv_fieldAddr rfl) rfl ?_
    refine L_v (opv_load rfl (Rd.look rfl)) rfl ?_
    refine L_v ((opv_eql rfl rfl).bool_f ho) rfl ?_
    refine L_nil ?_
    refine K_then ?_
    refine J_cond_false rfl ?_
    refine J_skip ?_
    refine K_then ?_
    refine J_seq ?_
    refine J_seq ?_
    refine J_region ?_
    refine L_v (opv_move rfl) rfl ?_
    refine L_v ((opv_lss rfl rfl).bool_f (by omega)) rfl ?_
    refine L_nil ?_
    refine K_then ?_
    refine J_cond_false rfl ?_
    refine J_skip ?_
    refine K_then ?_
    refine J_seq ?_
    obtain ⟨A1, c1⟩ := r
    refine J_imp (sep (Own 73 10 (.slice A1 B1.length c1) B1.length (B1.flatMap encB)) (sep (cel rp [.slice A1 B1.length c1, .int .i64 m, .int .i64 wt, .int .i64 now, .int .i64 dr1] 67) (sep (cel b5 [.int .i64 x.id, .bool x.more, .int .i64 x.off, .int .i64 x.ttl, .int .i64 x.proto, .string (bytesL [x.s0, x.s1, x.s2, x.s3]), .string (bytesL [x.d0, x.d1, x.d2, x.d3]), .string x.data] 36) (sep (cel b6 [.int .i64 0, .bool false, .int .i64 0, .int .i64 0, .int .i64 0, .string ⟨#[]⟩, .string ⟨#[]⟩, .string ⟨#[]⟩] 36) (F))))) ?_ ?_
    · exact Ent.take
    refine J_own (fun e1 e2 e3 => absurd hf (by rw [e2]; exact Nat.not_lt_zero _)) (fun b cap pre post e1 e2 e3 e4 e5 => ?_)
    simp only [Value.slice.injEq] at e1
    obtain ⟨rfl, _, rfl⟩ := e1
    refine J_region ?_
    refine L_v (opv_move rfl) rfl ?_
    refine L_v (opv_nilCheck rfl) rfl ?_
    first
      | refine L_v (opv_fieldAddr0 rfl) rfl ?_
      | refine L_v (opv_fieldAddr rfl) rfl ?_
    refine L_v (opv_load rfl (Rd.look rfl)) rfl ?_
    refine L_v (opv_move rfl) rfl ?_
    first
      | refine L_v (opv_indexAddr rfl rfl (by omega)) rfl ?_
      | refine L_v (opv_indexAddrA rfl rfl (by omega)) rfl ?_
    first
      | refine L_v (opv_fieldAddr0 rfl) rfl ?_
      | refine L_v (opv_fieldAddr rfl) rfl ?_
    refine L_v (opv_load rfl (Rd.elem encB_len (q := B1) (j := 9) hy rfl)) rfl ?_
    refine L_v (opv_assign rfl) rfl ?_
    refine L_nil ?_
    refine K_then ?_
    refine J_seq ?_
    refine J_region ?_
    refine L_v (opv_assign rfl) rfl ?_
    refine L_nil ?_
    refine K_then ?_
    refine J_seq ?_
    refine J_seq ?_
    refine J_region ?_
    refine L_v (opv_move rfl) rfl ?_
    first
      | refine L_v (opv_lenL rfl) rfl ?_
      | refine L_v (opv_lenS rfl) rfl ?_
    refine L_v ((opv_remP rfl rfl (by omega)).as (v' := .int .i64 ((y.data.size % 8 : Nat) : Int)) rfl) rfl ?_
    refine L_v ((opv_neq rfl rfl).bool_f (by omega)) rfl ?_
    refine L_v (opv_move rfl) rfl ?_
    refine L_gon rfl rfl rfl ?_
    first
      | refine L_v (opv_fieldAddr0 rfl) rfl ?_
      | refine L_v (opv_fieldAddr rfl) rfl ?_
    refine L_gon rfl rfl rfl ?_
    refine L_v (opv_load rfl (Rd.look rfl)) rfl ?_
    refine L_gon rfl rfl rfl ?_
    refine L_v (opv_move rfl) rfl ?_
    refine L_gon rfl rfl rfl ?_
    first
      | refine L_v (opv_lenL rfl) rfl ?_
      | refine L_v (opv_lenS rfl) rfl ?_
    refine L_gon rfl rfl rfl ?_
    refine L_v ((opv_quoP rfl rfl (by omega)).as (v' := .int .i64 ((y.data.size / 8 : Nat) : Int)) rfl) rfl ?_
    refine L_gon rfl rfl rfl ?_
    refine L_v ((opv_neq rfl rfl).bool_f (by omega)) rfl ?_
    first
      | refine L_v (opv_pick_tt rfl rfl) rfl ?_
      | refine L_v (opv_pick_ff rfl rfl) rfl ?_
      | refine L_v (opv_pick rfl rfl rfl) rfl ?_
    refine L_nil ?_
    refine K_then ?_
    refine J_cond_false rfl ?_
    refine J_seq ?_
    refine J_region ?_
    refine L_v (opv_loadS rfl) rfl ?_
    refine L_x rfl (opx_call0 (wrong_spec x) rfl rfl rfl) (fun _ _ => ?_)
    refine L_emp ?_
    rw [decide_eq_false hs2]
    refine L_nil ?_
    refine K_then ?_
    refine J_cond_false rfl ?_
    refine J_seq ?_
    refine J_region ?_
    refine L_v (opv_move rfl) rfl ?_
    first
      | refine L_v (opv_lenL rfl) rfl ?_
      | refine L_v (opv_lenS rfl) rfl ?_
    first
      | refine L_v (opv_fieldAddr0 rfl) rfl ?_
      | refine L_v (opv_fieldAddr rfl) rfl ?_
    refine L_v (opv_load rfl (Rd.look rfl)) rfl ?_
    first
      | refine L_v (opv_lenL rfl) rfl ?_
      | refine L_v (opv_lenS rfl) rfl ?_
    refine L_v ((opv_add64 rfl rfl (by omega))) rfl ?_
    refine L_v ((opv_gtr rfl rfl).bool_f (by omega)) rfl ?_
    refine L_nil ?_
    refine K_then ?_
    refine J_cond_false rfl ?_
    refine J_skip ?_
    refine K_then ?_
    refine J_seq ?_
    refine J_seq ?_
    refine J_region ?_
    refine L_v (opv_move rfl) rfl ?_
    first
      | refine L_v ((opv_neq rfl rfl).bool_t (by decide)) rfl ?_
      | refine L_v ((opv_neq rfl rfl).bool_f (by decide)) rfl ?_
    refine L_nil ?_
    refine K_then ?_
    refine J_cond_false rfl ?_
    refine J_skip ?_
    refine K_then ?_
    refine J_seq ?_
    refine J_steps ((sep (cel rp [.slice (some (ad b pre.length)) B1.length c1, .int .i64 m, .int .i64 wt, .int .i64 now, .int .i64 dr1] 67) (cel b5 [.int .i64 x.id, .bool x.more, .int .i64 x.off, .int .i64 x.ttl, .int .i64 x.proto, .string (bytesL [x.s0, x.s1, x.s2, x.s3]), .string (bytesL [x.d0, x.d1, x.d2, x.d3]), .string x.data] 36))) ((sep (cel rp [.slice (some (ad b pre.length)) B1.length c1, .int .i64 m, .int .i64 wt, .int .i64 now, .int .i64 dr1] 67) (sep (cel b5 [.int .i64 x.id, .bool x.more, .int .i64 x.off, .int .i64 x.ttl, .int .i64 x.proto, .string (bytesL [x.s0, x.s1, x.s2, x.s3]), .string (bytesL [x.d0, x.d1, x.d2, x.d3]), .string x.data] 36) (cel b (pre ++ B1.flatMap encB ++ post) 73)))) [11] Try.mixed ?_
    refine R_pure 0 rfl (by kernel_rfl) (by kernel_rfl) (by kernel_rfl) (by kernel_rfl) (.inr ⟨_, Take.eq (A := (sep (cel rp [.slice (some (ad b pre.length)) B1.length c1, .int .i64 m, .int .i64 wt, .int .i64 now, .int .i64 dr1] 67) (sep (cel b5 [.int .i64 x.id, .bool x.more, .int .i64 x.off, .int .i64 x.ttl, .int .i64 x.proto, .string (bytesL [x.s0, x.s1, x.s2, x.s3]), .string (bytesL [x.d0, x.d1, x.d2, x.d3]), .string x.data] 36) (cel b (pre ++ B1.flatMap encB ++ post) 73))))⟩) (opv_move rfl) rfl ?_
    refine R_pure 1 rfl (by kernel_rfl) (by kernel_rfl) (by kernel_rfl) (by kernel_rfl) (.inr ⟨_, Take.eq (A := (sep (cel rp [.slice (some (ad b pre.length)) B1.length c1, .int .i64 m, .int .i64 wt, .int .i64 now, .int .i64 dr1] 67) (sep (cel b5 [.int .i64 x.id, .bool x.more, .int .i64 x.off, .int .i64 x.ttl, .int .i64 x.proto, .string (bytesL [x.s0, x.s1, x.s2, x.s3]), .string (bytesL [x.d0, x.d1, x.d2, x.d3]), .string x.data] 36) (cel b (pre ++ B1.flatMap encB ++ post) 73))))⟩) (opv_nilCheck rfl) rfl ?_
    first
      | refine R_pure 2 rfl (by kernel_rfl) (by kernel_rfl) (by kernel_rfl) (by kernel_rfl) (.inr ⟨_, Take.eq (A := (sep (cel rp [.slice (some (ad b pre.length)) B1.length c1, .int .i64 m, .int .i64 wt, .int .i64 now, .int .i64 dr1] 67) (sep (cel b5 [.int .i64 x.id, .bool x.more, .int .i64 x.off, .int .i64 x.ttl, .int .i64 x.proto, .string (bytesL [x.s0, x.s1, x.s2, x.s3]), .string (bytesL [x.d0, x.d1, x.d2, x.d3]), .string x.data] 36) (cel b (pre ++ B1.flatMap encB ++ post) 73))))⟩) (opv_fieldAddr0 rfl) rfl ?_
      | refine R_pure 2 rfl (by kernel_rfl) (by kernel_rfl) (by kernel_rfl) (by kernel_rfl) (.inr ⟨_, Take.eq (A := (sep (cel rp [.slice (some (ad b pre.length)) B1.length c1, .int .i64 m, .int .i64 wt, .int .i64 now, .int .i64 dr1] 67) (sep (cel b5 [.int .i64 x.id, .bool x.more, .int .i64 x.off, .int .i64 x.ttl, .int .i64 x.proto, .string (bytesL [x.s0, x.s1, x.s2, x.s3]), .string (bytesL [x.d0, x.d1, x.d2, x.d3]), .string x.data] 36) (cel b (pre ++ B1.flatMap encB ++ post) 73))))⟩) (opv_fieldAddr rfl) rfl ?_
    refine R_take 3 rfl (by kernel_rfl) (by kernel_rfl) (by kernel_rfl) (by kernel_rfl) (by kernel_rfl) (opv_load rfl (Rd.look rfl)) rfl ?_
    refine R_pure 4 rfl (by kernel_rfl) (by kernel_rfl) (by kernel_rfl) (by kernel_rfl) (.inr ⟨_, Take.eq (A := (sep (cel rp [.slice (some (ad b pre.length)) B1.length c1, .int .i64 m, .int .i64 wt, .int .i64 now, .int .i64 dr1] 67) (sep (cel b5 [.int .i64 x.id, .bool x.more, .int .i64 x.off, .int .i64 x.ttl, .int .i64 x.proto, .string (bytesL [x.s0, x.s1, x.s2, x.s3]), .string (bytesL [x.d0, x.d1, x.d2, x.d3]), .string x.data] 36) (cel b (pre ++ B1.flatMap encB ++ post) 73))))⟩) (opv_move rfl) rfl ?_
    refine R_pure 5 rfl (by kernel_rfl) (by kernel_rfl) (by kernel_rfl) (by kernel_rfl) (.inr ⟨_, Take.eq (A := (sep (cel rp [.slice (some (ad b pre.length)) B1.length c1, .int .i64 m, .int .i64 wt, .int .i64 now, .int .i64 dr1] 67) (sep (cel b5 [.int .i64 x.id, .bool x.more, .int .i64 x.off, .int .i64 x.ttl, .int .i64 x.proto, .string (bytesL [x.s0, x.s1, x.s2, x.s3]), .string (bytesL [x.d0, x.d1, x.d2, x.d3]), .string x.data] 36) (cel b (pre ++ B1.flatMap encB ++ post) 73))))⟩) (opv_move rfl) rfl ?_
    first
      | refine R_pure 6 rfl (by kernel_rfl) (by kernel_rfl) (by kernel_rfl) (by kernel_rfl) (.inr ⟨_, Take.eq (A := (sep (cel rp [.slice (some (ad b pre.length)) B1.length c1, .int .i64 m, .int .i64 wt, .int .i64 now, .int .i64 dr1] 67) (sep (cel b5 [.int .i64 x.id, .bool x.more, .int .i64 x.off, .int .i64 x.ttl, .int .i64 x.proto, .string (bytesL [x.s0, x.s1, x.s2, x.s3]), .string (bytesL [x.d0, x.d1, x.d2, x.d3]), .string x.data] 36) (cel b (pre ++ B1.flatMap encB ++ post) 73))))⟩) (opv_fieldAddr0 rfl) rfl ?_
      | refine R_pure 6 rfl (by kernel_rfl) (by kernel_rfl) (by kernel_rfl) (by kernel_rfl) (.inr ⟨_, Take.eq (A := (sep (cel rp [.slice (some (ad b pre.length)) B1.length c1, .int .i64 m, .int .i64 wt, .int .i64 now, .int .i64 dr1] 67) (sep (cel b5 [.int .i64 x.id, .bool x.more, .int .i64 x.off, .int .i64 x.ttl, .int .i64 x.proto, .string (bytesL [x.s0, x.s1, x.s2, x.s3]), .string (bytesL [x.d0, x.d1, x.d2, x.d3]), .string x.data] 36) (cel b (pre ++ B1.flatMap encB ++ post) 73))))⟩) (opv_fieldAddr rfl) rfl ?_
    refine R_take 7 rfl (by kernel_rfl) (by kernel_rfl) (by kernel_rfl) (by kernel_rfl) (by kernel_rfl) (opv_load rfl (Rd.look rfl)) rfl ?_
    refine R_pure 8 rfl (by kernel_rfl) (by kernel_rfl) (by kernel_rfl) (by kernel_rfl) (.inr ⟨_, Take.eq (A := (sep (cel rp [.slice (some (ad b pre.length)) B1.length c1, .int .i64 m, .int .i64 wt, .int .i64 now, .int .i64 dr1] 67) (sep (cel b5 [.int .i64 x.id, .bool x.more, .int .i64 x.off, .int .i64 x.ttl, .int .i64 x.proto, .string (bytesL [x.s0, x.s1, x.s2, x.s3]), .string (bytesL [x.d0, x.d1, x.d2, x.d3]), .string x.data] 36) (cel b (pre ++ B1.flatMap encB ++ post) 73))))⟩) ((opv_addS rfl rfl (by omega))) rfl ?_
    refine R_pure 9 rfl (by kernel_rfl) (by kernel_rfl) (by kernel_rfl) (by kernel_rfl) (.inr ⟨_, Take.eq (A := (sep (cel rp [.slice (some (ad b pre.length)) B1.length c1, .int .i64 m, .int .i64 wt, .int .i64 now, .int .i64 dr1] 67) (sep (cel b5 [.int .i64 x.id, .bool x.more, .int .i64 x.off, .int .i64 x.ttl, .int .i64 x.proto, .string (bytesL [x.s0, x.s1, x.s2, x.s3]), .string (bytesL [x.d0, x.d1, x.d2, x.d3]), .string x.data] 36) (cel b (pre ++ B1.flatMap encB ++ post) 73))))⟩) (opv_indexAddr rfl rfl (by omega)) rfl ?_
    first
      | refine R_pure 10 rfl (by kernel_rfl) (by kernel_rfl) (by kernel_rfl) (by kernel_rfl) (.inr ⟨_, Take.eq (A := (sep (cel rp [.slice (some (ad b pre.length)) B1.length c1, .int .i64 m, .int .i64 wt, .int .i64 now, .int .i64 dr1] 67) (sep (cel b5 [.int .i64 x.id, .bool x.more, .int .i64 x.off, .int .i64 x.ttl, .int .i64 x.proto, .string (bytesL [x.s0, x.s1, x.s2, x.s3]), .string (bytesL [x.d0, x.d1, x.d2, x.d3]), .string x.data] 36) (cel b (pre ++ B1.flatMap encB ++ post) 73))))⟩) (opv_fieldAddr0 rfl) rfl ?_
      | refine R_pure 10 rfl (by kernel_rfl) (by kernel_rfl) (by kernel_rfl) (by kernel_rfl) (.inr ⟨_, Take.eq (A := (sep (cel rp [.slice (some (ad b pre.length)) B1.length c1, .int .i64 m, .int .i64 wt, .int .i64 now, .int .i64 dr1] 67) (sep (cel b5 [.int .i64 x.id, .bool x.more, .int .i64 x.off, .int .i64 x.ttl, .int .i64 x.proto, .string (bytesL [x.s0, x.s1, x.s2, x.s3]), .string (bytesL [x.d0, x.d1, x.d2, x.d3]), .string x.data] 36) (cel b (pre ++ B1.flatMap encB ++ post) 73))))⟩) (opv_fieldAddr rfl) rfl ?_
    refine R_only 11 rfl rfl (by kernel_rfl) (opx_storeAt (m := 1) (vs := [.string (y.data ++ x.data)]) (l' := pre ++ (B1.set (fB B1 x) (⟨y.p, y.t, y.data ++ x.data⟩ : Bgr)).flatMap encB ++ post) rfl rfl rfl (by simp [Value.oneCell']) (by simp only [List.length_append, Int.toNat_natCast, List.length_singleton]; omega) (by rw [Int.toNat_natCast]; exact flat9 pre post hy)) (fun _ _ => ⟨_, Take.eq (A := (sep (cel rp [.slice (some (ad b pre.length)) B1.length c1, .int .i64 m, .int .i64 wt, .int .i64 now, .int .i64 dr1] 67) (cel b5 [.int .i64 x.id, .bool x.more, .int .i64 x.off, .int .i64 x.ttl, .int .i64 x.proto, .string (bytesL [x.s0, x.s1, x.s2, x.s3]), .string (bytesL [x.d0, x.d1, x.d2, x.d3]), .string x.data] 36)))⟩) (.inl (by kernel_rfl)) (fun _ _ => ?_)
    refine R_done (by kernel_rfl) ?_
    refine K_then ?_
    refine J_seq ?_
    refine J_seq ?_
    refine J_region ?_
    first
      | refine L_v (opv_fieldAddr0 rfl) rfl ?_
      | refine L_v (opv_fieldAddr rfl) rfl ?_
    refine L_v ((opv_load rfl (Rd.look rfl)).as (v' := .bool true) (by rw [hm])) rfl ?_
    refine L_nil ?_
    refine K_then ?_
    refine J_cond_true rfl ?_
    refine J_seq ?_
    refine J_region ?_
    refine L_v (opv_build rfl) rfl ?_
    refine L_x rfl (opx_store rfl rfl rfl (by simp [Value.oneCell'])) (fun _ _ => ?_)
    refine L_v (opv_assign rfl) rfl ?_
    refine L_v (opv_assign rfl) rfl ?_
    refine L_nil ?_
    refine K_then ?_
    refine J_ret ?_
    refine K_then_ret ?_
    exact K_ret3c rfl rfl rfl rfl rfl ((some (ad b pre.length)), c1) trivial rfl (Ent.trans (Ent.take (Q := (sep (cel b (pre ++ (B1.set (fB B1 x) (⟨y.p, y.t, y.data ++ x.data⟩ : Bgr)).flatMap encB ++ post) 73) (sep (cel rp [.slice (some (ad b pre.length)) B1.length c1, .int .i64 m, .int .i64 wt, .int .i64 now, .int .i64 dr1] 67) (F))))) (Ent.trans (Ent.frame (Own.mk (e := 73) (m := 10) (len := B1.length) (v := .slice (some (ad b pre.length)) B1.length c1) rfl e2 e3 (by rw [flat_len encB_len, List.length_set]) e5) _) (Ent.of (by rw [List.length_set, sep_assoc]))))

set_option maxHeartbeats 800000 in
theorem RPut_last (rp : Nat) (A : Option Addr) (c : Nat) (B : List Bgr) (m wt now0 dr : Int) (hn : B.length ≤ 1000000) (now : Int) (x : Pk) (hx : okA x) (h : timC now0 now = 0) (h0 : 0 ≤ now0) (hwt : 0 ≤ wt ∧ wt ≤ 1125899906842624) (hb : ∀ b ∈ B, 0 ≤ b.t ∧ b.t ≤ 1125899906842624) (hdr : 0 ≤ dr ∧ dr ≤ 1000000) (B1 : List Bgr) (dr1 : Int) (h1 : B.filter (keepB wt now) = B1) (h2 : dr + B.length - B1.length = dr1) (hB : ∀ b ∈ B1, okA b.p) (hn1 : B1.length ≤ 1000000) (hd1 : 0 ≤ dr1 ∧ dr1 ≤ 1000000) (hxd : x.data.size ≤ 1000000) (ho : x.off ≠ 0) (hf : fB B1 x < B1.length) (y : Bgr) (hy : B1[fB B1 x]? = some y) (hyd : y.data.size ≤ 8200) (hs : sndC x y.data.size = 0) (hm : x.more = false) : FSpec Try.prog 33 #[.pointer (some (ad rp 0)), .int .i64 now, .agg [.int .i64 x.id, .bool x.more, .int .i64 x.off, .int .i64 x.ttl, .int .i64 x.proto, .string (bytesL [x.s0, x.s1, x.s2, x.s3]), .string (bytesL [x.d0, x.d1, x.d2, x.d3]), .string x.data].toArray] ((sep (Own 73 10 (.slice A B.length c) B.length (B.flatMap encB)) (cel rp [.slice A B.length c, .int .i64 m, .int .i64 wt, .int .i64 now0, .int .i64 dr] 67))) (fun r : Option Addr × Nat => True) (fun r => .tuple #[.agg [.int .i64 x.id, .bool x.more, .int .i64 0, .int .i64 x.ttl, .int .i64 x.proto, .string (bytesL [x.s0, x.s1, x.s2, x.s3]), .string (bytesL [x.d0, x.d1, x.d2, x.d3]), .string (y.data ++ x.data)].toArray, .bool true, .int .i64 0]) (fun r => (sep (Own 73 10 (.slice r.1 (B1.take (fB B1 x) ++ B1.drop ((fB B1 x) + 1)).length r.2) (B1.take (fB B1 x) ++ B1.drop ((fB B1 x) + 1)).length ((B1.take (fB B1 x) ++ B1.drop ((fB B1 x) + 1)).flatMap encB)) (cel rp [.slice r.1 (B1.take (fB B1 x) ++ B1.drop ((fB B1 x) + 1)).length r.2, .int .i64 m, .int .i64 wt, .int .i64 now, .int .i64 dr1] 67))) := by
  obtain ⟨hs1, hs2, hs3⟩ : (y.data.size % 8 = 0 ∧ x.off = ((y.data.size / 8 : Nat) : Int)) ∧ ¬ (x.more = true ∧ (x.data.size = 0 ∨ x.data.size % 8 ≠ 0)) ∧ y.data.size + x.data.size ≤ 8200 := by
    unfold sndC at hs
    split at hs
    · cases hs
    · split at hs
      · cases hs
      · split at hs
        · cases hs
        · exact ⟨by omega, by assumption, by omega⟩
  have hfl := flat_len encB_len B1
  have hQ : (B1.set (fB B1 x) (⟨y.p, y.t, y.data ++ x.data⟩ : Bgr)).take (fB B1 x) ++ (B1.set (fB B1 x) (⟨y.p, y.t, y.data ++ x.data⟩ : Bgr)).drop ((fB B1 x) + 1) = (B1.take (fB B1 x) ++ B1.drop ((fB B1 x) + 1)) := by rw [List.take_set_of_le (Nat.le_refl _), List.drop_set_of_lt (Nat.lt_succ_self _)]
  refine FSpec.enter' Try.func33 rfl Try.ntmps33 rfl fun σ F => ?_
  refine J_seq ?_
  refine J_region ?_
  refine L_x rfl (opx_box (l := [.int .i64 x.id, .bool x.more, .int .i64 x.off, .int .i64 x.ttl, .int .i64 x.proto, .string (bytesL [x.s0, x.s1, x.s2, x.s3]), .string (bytesL [x.d0, x.d1, x.d2, x.d3]), .string x.data]) rfl rfl) (fun b5 _ => ?_)
  refine L_x rfl (opx_alloc rfl) (fun b6 _ => ?_)
  refine L_v (opv_assign rfl) rfl ?_
  refine L_v (opv_assign rfl) rfl ?_
  refine L_nil ?_
  refine K_then ?_
  refine J_seq ?_
  refine J_region ?_
  refine L_v (opv_move rfl) rfl ?_
  refine L_v (opv_move rfl) rfl ?_
  refine L_x rfl (opx_call0 (RPass_z rp A c B m wt now0 dr hn now h h0 hwt hb hdr B1 dr1 h1 h2) rfl rfl rfl) (fun r _ => ?_)
  refine L_v (opv_assign rfl) rfl ?_
  refine L_nil ?_
  refine K_then ?_
  refine J_seq ?_
  refine J_seq ?_
  refine J_region ?_
  refine L_v (opv_move rfl) rfl ?_
  refine L_v ((opv_neq rfl rfl).bool_f (by decide)) rfl ?_
  refine L_nil ?_
  refine K_then ?_
  refine J_cond_false rfl ?_
  refine J_skip ?_
  refine K_then ?_
  refine J_seq ?_
  refine J_seq ?_
  refine J_region ?_
  first
    | refine L_v (opv_fieldAddr0 rfl) rfl ?_
    | refine L_v (opv_fieldAddr rfl) rfl ?_
  refine L_v ((opv_load rfl (Rd.look rfl)).as (v' := .bool (decide (x.more = true))) (by simp)) rfl ?_
  refine L_v ((opv_notD rfl)) rfl ?_
  refine L_v (opv_move rfl) rfl ?_
  refine L_gt rfl rfl (fun h1 => ?_) (fun h1 => ?_) (fun _ h => by cases h; rfl)
  · first
      | refine L_v (opv_fieldAddr0 rfl) rfl ?_
      | refine L_v (opv_fieldAddr rfl) rfl ?_
    refine L_gt_on h1 rfl rfl ?_
    refine L_v (opv_load rfl (Rd.look rfl)) rfl ?_
    refine L_gt_on h1 rfl rfl ?_
    refine L_v ((opv_eql rfl rfl).bool_f ho) rfl ?_
    refine L_v (opv_pick_t rfl h1 rfl) rfl ?_
    refine L_nil ?_
    refine K_then ?_
    refine J_cond_false rfl ?_
    refine J_skip ?_
    refine K_then ?_
    refine J_seq ?_
    refine J_region ?_
    refine L_v (opv_move rfl) rfl ?_
    refine L_v (opv_loadS rfl) rfl ?_
    refine L_x rfl (opx_call0 (Rfind_spec rp r.1 r.2 B1 m wt now dr1 hn1 x hx hB) rfl rfl rfl) (fun _ _ => ?_)
    rw [if_pos hf]
    refine L_v (opv_assign rfl) rfl ?_
    refine L_nil ?_
    refine K_then ?_
    refine J_seq ?_
    refine J_seq ?_
    refine J_region ?_
    first
      | refine L_v (opv_fieldAddr0 rfl) rfl ?_
      | refine L_v (opv_fieldAddr rfl) rfl ?_
    refine L_v (opv_load rfl (Rd.look rfl)) rfl ?_
    refine L_v ((opv_eql rfl rfl).bool_f ho) rfl ?_
    refine L_nil ?_
    refine K_then ?_
    refine J_cond_false rfl ?_
    refine J_skip ?_
    refine K_then ?_
    refine J_seq ?_
    refine J_seq ?_
    refine J_region ?_
    refine L_v (opv_move rfl) rfl ?_
    refine L_v ((opv_lss rfl rfl).bool_f (by omega)) rfl ?_
    refine L_nil ?_
    refine K_then ?_
    refine J_cond_false rfl ?_
    refine J_skip ?_
    refine K_then ?_
    refine J_seq ?_
    obtain ⟨A1, c1⟩ := r
    refine J_imp (sep (Own 73 10 (.slice A1 B1.length c1) B1.length (B1.flatMap encB)) (sep (cel rp [.slice A1 B1.length c1, .int .i64 m, .int .i64 wt, .int .i64 now, .int .i64 dr1] 67) (sep (cel b5 [.int .i64 x.id, .bool x.more, .int .i64 x.off, .int .i64 x.ttl, .int .i64 x.proto, .string (bytesL [x.s0, x.s1, x.s2, x.s3]), .string (bytesL [x.d0, x.d1, x.d2, x.d3]), .string x.data] 36) (sep (cel b6 [.int .i64 0, .bool false, .int .i64 0, .int .i64 0, .int .i64 0, .string ⟨#[]⟩, .string ⟨#[]⟩, .string ⟨#[]⟩] 36) (F))))) ?_ ?_
    · exact Ent.take
    refine J_own (fun e1 e2 e3 => absurd hf (by rw [e2]; exact Nat.not_lt_zero _)) (fun b cap pre post e1 e2 e3 e4 e5 => ?_)
    simp only [Value.slice.injEq] at e1
    obtain ⟨rfl, _, rfl⟩ := e1
    refine J_region ?_
    refine L_v (opv_move rfl) rfl ?_
    refine L_v (opv_nilCheck rfl) rfl ?_
    first
      | refine L_v (opv_fieldAddr0 rfl) rfl ?_
      | refine L_v (opv_fieldAddr rfl) rfl ?_
    refine L_v (opv_load rfl (Rd.look rfl)) rfl ?_
    refine L_v (opv_move rfl) rfl ?_
    first
      | refine L_v (opv_indexAddr rfl rfl (by omega)) rfl ?_
      | refine L_v (opv_indexAddrA rfl rfl (by omega)) rfl ?_
    first
      | refine L_v (opv_fieldAddr0 rfl) rfl ?_
      | refine L_v (opv_fieldAddr rfl) rfl ?_
    refine L_v (opv_load rfl (Rd.elem encB_len (q := B1) (j := 9) hy rfl)) rfl ?_
    refine L_v (opv_assign rfl) rfl ?_
    refine L_nil ?_
    refine K_then ?_
    refine J_seq ?_
    refine J_region ?_
    refine L_v (opv_assign rfl) rfl ?_
    refine L_nil ?_
    refine K_then ?_
    refine J_seq ?_
    refine J_seq ?_
    refine J_region ?_
    refine L_v (opv_move rfl) rfl ?_
    first
      | refine L_v (opv_lenL rfl) rfl ?_
      | refine L_v (opv_lenS rfl) rfl ?_
    refine L_v ((opv_remP rfl rfl (by omega)).as (v' := .int .i64 ((y.data.size % 8 : Nat) : Int)) rfl) rfl ?_
    refine L_v ((opv_neq rfl rfl).bool_f (by omega)) rfl ?_
    refine L_v (opv_move rfl) rfl ?_
    refine L_gon rfl rfl rfl ?_
    first
      | refine L_v (opv_fieldAddr0 rfl) rfl ?_
      | refine L_v (opv_fieldAddr rfl) rfl ?_
    refine L_gon rfl rfl rfl ?_
    refine L_v (opv_load rfl (Rd.look rfl)) rfl ?_
    refine L_gon rfl rfl rfl ?_
    refine L_v (opv_move rfl) rfl ?_
    refine L_gon rfl rfl rfl ?_
    first
      | refine L_v (opv_lenL rfl) rfl ?_
      | refine L_v (opv_lenS rfl) rfl ?_
    refine L_gon rfl rfl rfl ?_
    refine L_v ((opv_quoP rfl rfl (by omega)).as (v' := .int .i64 ((y.data.size / 8 : Nat) : Int)) rfl) rfl ?_
    refine L_gon rfl rfl rfl ?_
    refine L_v ((opv_neq rfl rfl).bool_f (by omega)) rfl ?_
    first
      | refine L_v (opv_pick_tt rfl rfl) rfl ?_
      | refine L_v (opv_pick_ff rfl rfl) rfl ?_
      | refine L_v (opv_pick rfl rfl rfl) rfl ?_
    refine L_nil ?_
    refine K_then ?_
    refine J_cond_false rfl ?_
    refine J_seq ?_
    refine J_region ?_
    refine L_v (opv_loadS rfl) rfl ?_
    refine L_x rfl (opx_call0 (wrong_spec x) rfl rfl rfl) (fun _ _ => ?_)
    refine L_emp ?_
    rw [decide_eq_false hs2]
    refine L_nil ?_
    refine K_then ?_
    refine J_cond_false rfl ?_
    refine J_seq ?_
    refine J_region ?_
    refine L_v (opv_move rfl) rfl ?_
    first
      | refine L_v (opv_lenL rfl) rfl ?_
      | refine L_v (opv_lenS rfl) rfl ?_
    first
      | refine L_v (opv_fieldAddr0 rfl) rfl ?_
      | refine L_v (opv_fieldAddr rfl) rfl ?_
    refine L_v (opv_load rfl (Rd.look rfl)) rfl ?_
    first
      | refine L_v (opv_lenL rfl) rfl ?_
      | refine L_v (opv_lenS rfl) rfl ?_
    refine L_v ((opv_add64 rfl rfl (by omega))) rfl ?_
    refine L_v ((opv_gtr rfl rfl).bool_f (by omega)) rfl ?_
    refine L_nil ?_
    refine K_then ?_
    refine J_cond_false rfl ?_
    refine J_skip ?_
    refine K_then ?_
    refine J_seq ?_
    refine J_seq ?_
    refine J_region ?_
    refine L_v (opv_move rfl) rfl ?_
    first
      | refine L_v ((opv_neq rfl rfl).bool_t (by decide)) rfl ?_
      | refine L_v ((opv_neq rfl rfl).bool_f (by decide)) rfl ?_
    refine L_nil ?_
    refine K_then ?_
    refine J_cond_false rfl ?_
    refine J_skip ?_
    refine K_then ?_
    refine J_seq ?_
    refine J_steps ((sep (cel rp [.slice (some (ad b pre.length)) B1.length c1, .int .i64 m, .int .i64 wt, .int .i64 now, .int .i64 dr1] 67) (cel b5 [.int .i64 x.id, .bool x.more, .int .i64 x.off, .int .i64 x.ttl, .int .i64 x.proto, .string (bytesL [x.s0, x.s1, x.s2, x.s3]), .string (bytesL [x.d0, x.d1, x.d2, x.d3]), .string x.data] 36))) ((sep (cel rp [.slice (some (ad b pre.length)) B1.length c1, .int .i64 m, .int .i64 wt, .int .i64 now, .int .i64 dr1] 67) (sep (cel b5 [.int .i64 x.id, .bool x.more, .int .i64 x.off, .int .i64 x.ttl, .int .i64 x.proto, .string (bytesL [x.s0, x.s1, x.s2, x.s3]), .string (bytesL [x.d0, x.d1, x.d2, x.d3]), .string x.data] 36) (cel b (pre ++ B1.flatMap encB ++ post) 73)))) [11] Try.mixed ?_
    refine R_pure 0 rfl (by kernel_rfl) (by kernel_rfl) (by kernel_rfl) (by kernel_rfl) (.inr ⟨_, Take.eq (A := (sep (cel rp [.slice (some (ad b pre.length)) B1.length c1, .int .i64 m, .int .i64 wt, .int .i64 now, .int .i64 dr1] 67) (sep (cel b5 [.int .i64 x.id, .bool x.more, .int .i64 x.off, .int .i64 x.ttl, .int .i64 x.proto, .string (bytesL [x.s0, x.s1, x.s2, x.s3]), .string (bytesL [x.d0, x.d1, x.d2, x.d3]), .string x.data] 36) (cel b (pre ++ B1.flatMap encB ++ post) 73))))⟩) (opv_move rfl) rfl ?_
    refine R_pure 1 rfl (by kernel_rfl) (by kernel_rfl) (by kernel_rfl) (by kernel_rfl) (.inr ⟨_, Take.eq (A := (sep (cel rp [.slice (some (ad b pre.length)) B1.length c1, .int .i64 m, .int .i64 wt, .int .i64 now, .int .i64 dr1] 67) (sep (cel b5 [.int .i64 x.id, .bool x.more, .int .i64 x.off, .int .i64 x.ttl, .int .i64 x.proto, .string (bytesL [x.s0, x.s1, x.s2, x.s3]), .string (bytesL [x.d0, x.d1, x.d2, x.d3]), .string x.data] 36) (cel b (pre ++ B1.flatMap encB ++ post) 73))))⟩) (opv_nilCheck rfl) rfl ?_
    first
      | refine R_pure 2 rfl (by kernel_rfl) (by kernel_rfl) (by kernel_rfl) (by kernel_rfl) (.inr ⟨_, Take.eq (A := (sep (cel rp [.slice (some (ad b pre.length)) B1.length c1, .int .i64 m, .int .i64 wt, .int .i64 now, .int .i64 dr1] 67) (sep (cel b5 [.int .i64 x.id, .bool x.more, .int .i64 x.off, .int .i64 x.ttl, .int .i64 x.proto, .string (bytesL [x.s0, x.s1, x.s2, x.s3]), .string (bytesL [x.d0, x.d1, x.d2, x.d3]), .string x.data] 36) (cel b (pre ++ B1.flatMap encB ++ post) 73))))⟩) (opv_fieldAddr0 rfl) rfl ?_
      | refine R_pure 2 rfl (by kernel_rfl) (by kernel_rfl) (by kernel_rfl) (by kernel_rfl) (.inr ⟨_, Take.eq (A := (sep (cel rp [.slice (some (ad b pre.length)) B1.length c1, .int .i64 m, .int .i64 wt, .int .i64 now, .int .i64 dr1] 67) (sep (cel b5 [.int .i64 x.id, .bool x.more, .int .i64 x.off, .int .i64 x.ttl, .int .i64 x.proto, .string (bytesL [x.s0, x.s1, x.s2, x.s3]), .string (bytesL [x.d0, x.d1, x.d2, x.d3]), .string x.data] 36) (cel b (pre ++ B1.flatMap encB ++ post) 73))))⟩) (opv_fieldAddr rfl) rfl ?_
    refine R_take 3 rfl (by kernel_rfl) (by kernel_rfl) (by kernel_rfl) (by kernel_rfl) (by kernel_rfl) (opv_load rfl (Rd.look rfl)) rfl ?_
    refine R_pure 4 rfl (by kernel_rfl) (by kernel_rfl) (by kernel_rfl) (by kernel_rfl) (.inr ⟨_, Take.eq (A := (sep (cel rp [.slice (some (ad b pre.length)) B1.length c1, .int .i64 m, .int .i64 wt, .int .i64 now, .int .i64 dr1] 67) (sep (cel b5 [.int .i64 x.id, .bool x.more, .int .i64 x.off, .int .i64 x.ttl, .int .i64 x.proto, .string (bytesL [x.s0, x.s1, x.s2, x.s3]), .string (bytesL [x.d0, x.d1, x.d2, x.d3]), .string x.data] 36) (cel b (pre ++ B1.flatMap encB ++ post) 73))))⟩) (opv_move rfl) rfl ?_
    refine R_pure 5 rfl (by kernel_rfl) (by kernel_rfl) (by kernel_rfl) (by kernel_rfl) (.inr ⟨_, Take.eq (A := (sep (cel rp [.slice (some (ad b pre.length)) B1.length c1, .int .i64 m, .int .i64 wt, .int .i64 now, .int .i64 dr1] 67) (sep (cel b5 [.int .i64 x.id, .bool x.more, .int .i64 x.off, .int .i64 x.ttl, .int .i64 x.proto, .string (bytesL [x.s0, x.s1, x.s2, x.s3]), .string (bytesL [x.d0, x.d1, x.d2, x.d3]), .string x.data] 36) (cel b (pre ++ B1.flatMap encB ++ post) 73))))⟩) (opv_move rfl) rfl ?_
    first
      | refine R_pure 6 rfl (by kernel_rfl) (by kernel_rfl) (by kernel_rfl) (by kernel_rfl) (.inr ⟨_, Take.eq (A := (sep (cel rp [.slice (some (ad b pre.length)) B1.length c1, .int .i64 m, .int .i64 wt, .int .i64 now, .int .i64 dr1] 67) (sep (cel b5 [.int .i64 x.id, .bool x.more, .int .i64 x.off, .int .i64 x.ttl, .int .i64 x.proto, .string (bytesL [x.s0, x.s1, x.s2, x.s3]), .string (bytesL [x.d0, x.d1, x.d2, x.d3]), .string x.data] 36) (cel b (pre ++ B1.flatMap encB ++ post) 73))))⟩) (opv_fieldAddr0 rfl) rfl ?_
      | refine R_pure 6 rfl (by kernel_rfl) (by kernel_rfl) (by kernel_rfl) (by kernel_rfl) (.inr ⟨_, Take.eq (A := (sep (cel rp [.slice (some (ad b pre.length)) B1.length c1, .int .i64 m, .int .i64 wt, .int .i64 now, .int .i64 dr1] 67) (sep (cel b5 [.int .i64 x.id, .bool x.more, .int .i64 x.off, .int .i64 x.ttl, .int .i64 x.proto, .string (bytesL [x.s0, x.s1, x.s2, x.s3]), .string (bytesL [x.d0, x.d1, x.d2, x.d3]), .string x.data] 36) (cel b (pre ++ B1.flatMap encB ++ post) 73))))⟩) (opv_fieldAddr rfl) rfl ?_
    refine R_take 7 rfl (by kernel_rfl) (by kernel_rfl) (by kernel_rfl) (by kernel_rfl) (by kernel_rfl) (opv_load rfl (Rd.look rfl)) rfl ?_
    refine R_pure 8 rfl (by kernel_rfl) (by kernel_rfl) (by kernel_rfl) (by kernel_rfl) (.inr ⟨_, Take.eq (A := (sep (cel rp [.slice (some (ad b pre.length)) B1.length c1, .int .i64 m, .int .i64 wt, .int .i64 now, .int .i64 dr1] 67) (sep (cel b5 [.int .i64 x.id, .bool x.more, .int .i64 x.off, .int .i64 x.ttl, .int .i64 x.proto, .string (bytesL [x.s0, x.s1, x.s2, x.s3]), .string (bytesL [x.d0, x.d1, x.d2, x.d3]), .string x.data] 36) (cel b (pre ++ B1.flatMap encB ++ post) 73))))⟩) ((opv_addS rfl rfl (by omega))) rfl ?_
    refine R_pure 9 rfl (by kernel_rfl) (by kernel_rfl) (by kernel_rfl) (by kernel_rfl) (.inr ⟨_, Take.eq (A := (sep (cel rp [.slice (some (ad b pre.length)) B1.length c1, .int .i64 m, .int .i64 wt, .int .i64 now, .int .i64 dr1] 67) (sep (cel b5 [.int .i64 x.id, .bool x.more, .int .i64 x.off, .int .i64 x.ttl, .int .i64 x.proto, .string (bytesL [x.s0, x.s1, x.s2, x.s3]), .string (bytesL [x.d0, x.d1, x.d2, x.d3]), .string x.data] 36) (cel b (pre ++ B1.flatMap encB ++ post) 73))))⟩) (opv_indexAddr rfl rfl (by omega)) rfl ?_
    first
      | refine R_pure 10 rfl (by kernel_rfl) (by kernel_rfl) (by kernel_rfl) (by kernel_rfl) (.inr ⟨_, Take.eq (A := (sep (cel rp [.slice (some (ad b pre.length)) B1.length c1, .int .i64 m, .int .i64 wt, .int .i64 now, .int .i64 dr1] 67) (sep (cel b5 [.int .i64 x.id, .bool x.more, .int .i64 x.off, .int .i64 x.ttl, .int .i64 x.proto, .string (bytesL [x.s0, x.s1, x.s2, x.s3]), .string (bytesL [x.d0, x.d1, x.d2, x.d3]), .string x.data] 36) (cel b (pre ++ B1.flatMap encB ++ post) 73))))⟩) (opv_fieldAddr0 rfl) rfl ?_
      | refine R_pure 10 rfl (by kernel_rfl) (by kernel_rfl) (by kernel_rfl) (by kernel_rfl) (.inr ⟨_, Take.eq (A := (sep (cel rp [.slice (some (ad b pre.length)) B1.length c1, .int .i64 m, .int .i64 wt, .int .i64 now, .int .i64 dr1] 67) (sep (cel b5 [.int .i64 x.id, .bool x.more, .int .i64 x.off, .int .i64 x.ttl, .int .i64 x.proto, .string (bytesL [x.s0, x.s1, x.s2, x.s3]), .string (bytesL [x.d0, x.d1, x.d2, x.d3]), .string x.data] 36) (cel b (pre ++ B1.flatMap encB ++ post) 73))))⟩) (opv_fieldAddr rfl) rfl ?_
    refine R_only 11 rfl rfl (by kernel_rfl) (opx_storeAt (m := 1) (vs := [.string (y.data ++ x.data)]) (l' := pre ++ (B1.set (fB B1 x) (⟨y.p, y.t, y.data ++ x.data⟩ : Bgr)).flatMap encB ++ post) rfl rfl rfl (by simp [Value.oneCell']) (by simp only [List.length_append, Int.toNat_natCast, List.length_singleton]; omega) (by rw [Int.toNat_natCast]; exact flat9 pre post hy)) (fun _ _ => ⟨_, Take.eq (A := (sep (cel rp [.slice (some (ad b pre.length)) B1.length c1, .int .i64 m, .int .i64 wt, .int .i64 now, .int .i64 dr1] 67) (cel b5 [.int .i64 x.id, .bool x.more, .int .i64 x.off, .int .i64 x.ttl, .int .i64 x.proto, .string (bytesL [x.s0, x.s1, x.s2, x.s3]), .string (bytesL [x.d0, x.d1, x.d2, x.d3]), .string x.data] 36)))⟩) (.inl (by kernel_rfl)) (fun _ _ => ?_)
    refine R_done (by kernel_rfl) ?_
    refine K_then ?_
    refine J_seq ?_
    refine J_seq ?_
    refine J_region ?_
    first
      | refine L_v (opv_fieldAddr0 rfl) rfl ?_
      | refine L_v (opv_fieldAddr rfl) rfl ?_
    refine L_v ((opv_load rfl (Rd.look rfl)).as (v' := .bool false) (by rw [hm])) rfl ?_
    refine L_nil ?_
    refine K_then ?_
    refine J_cond_false rfl ?_
    refine J_skip ?_
    refine K_then ?_
    refine J_seq ?_
    refine J_imp (sep (Own 73 10 (.slice (some (ad b pre.length)) (B1.set (fB B1 x) (⟨y.p, y.t, y.data ++ x.data⟩ : Bgr)).length c1) (B1.set (fB B1 x) (⟨y.p, y.t, y.data ++ x.data⟩ : Bgr)).length ((B1.set (fB B1 x) (⟨y.p, y.t, y.data ++ x.data⟩ : Bgr)).flatMap encB)) (sep (cel rp [.slice (some (ad b pre.length)) (B1.set (fB B1 x) (⟨y.p, y.t, y.data ++ x.data⟩ : Bgr)).length c1, .int .i64 m, .int .i64 wt, .int .i64 now, .int .i64 dr1] 67) (sep (cel b5 [.int .i64 x.id, .bool x.more, .int .i64 x.off, .int .i64 x.ttl, .int .i64 x.proto, .string (bytesL [x.s0, x.s1, x.s2, x.s3]), .string (bytesL [x.d0, x.d1, x.d2, x.d3]), .string x.data] 36) (sep (cel b6 [.int .i64 0, .bool false, .int .i64 0, .int .i64 0, .int .i64 0, .string ⟨#[]⟩, .string ⟨#[]⟩, .string ⟨#[]⟩] 36) (F))))) (Ent.trans (Ent.take (Q := (sep (cel b (pre ++ (B1.set (fB B1 x) (⟨y.p, y.t, y.data ++ x.data⟩ : Bgr)).flatMap encB ++ post) 73) (sep (cel rp [.slice (some (ad b pre.length)) B1.length c1, .int .i64 m, .int .i64 wt, .int .i64 now, .int .i64 dr1] 67) (sep (cel b5 [.int .i64 x.id, .bool x.more, .int .i64 x.off, .int .i64 x.ttl, .int .i64 x.proto, .string (bytesL [x.s0, x.s1, x.s2, x.s3]), .string (bytesL [x.d0, x.d1, x.d2, x.d3]), .string x.data] 36) (sep (cel b6 [.int .i64 0, .bool false, .int .i64 0, .int .i64 0, .int .i64 0, .string ⟨#[]⟩, .string ⟨#[]⟩, .string ⟨#[]⟩] 36) (F))))))) (Ent.trans (Ent.frame (Own.mk (e := 73) (m := 10) (len := B1.length) (v := .slice (some (ad b pre.length)) B1.length c1) rfl e2 e3 (by rw [flat_len encB_len, List.length_set]) e5) _) (Ent.of (by rw [List.length_set])))) ?_
    refine J_region ?_
    refine L_v (opv_move rfl) rfl ?_
    refine L_v (opv_move rfl) rfl ?_
    refine L_x rfl (opx_call0 (Rdrop_spec rp (some (ad b pre.length)) c1 (B1.set (fB B1 x) (⟨y.p, y.t, y.data ++ x.data⟩ : Bgr)) m wt now dr1 (by rw [List.length_set]; exact hn1) (fB B1 x) (by rw [List.length_set]; exact hf)) rfl rfl rfl) (fun r2 _ => ?_)
    rw [hQ]
    refine L_nil ?_
    refine K_then ?_
    refine J_seq ?_
    refine J_region ?_
    first
      | refine L_v (opv_fieldAddr0 rfl) rfl ?_
      | refine L_v (opv_fieldAddr rfl) rfl ?_
    refine L_x rfl (opx_store rfl rfl rfl (by simp [Value.oneCell'])) (fun _ _ => ?_)
    refine L_nil ?_
    refine K_then ?_
    refine J_seq ?_
    refine J_region ?_
    refine L_v (opv_move rfl) rfl ?_
    first
      | refine L_v (opv_fieldAddr0 rfl) rfl ?_
      | refine L_v (opv_fieldAddr rfl) rfl ?_
    refine L_v (opv_load rfl (Rd.look rfl)) rfl ?_
    refine L_v ((opv_addS rfl rfl (by omega))) rfl ?_
    first
      | refine L_v (opv_fieldAddr0 rfl) rfl ?_
      | refine L_v (opv_fieldAddr rfl) rfl ?_
    refine L_x rfl (opx_store rfl rfl rfl (by simp [Value.oneCell'])) (fun _ _ => ?_)
    refine L_nil ?_
    refine K_then ?_
    refine J_seq ?_
    refine J_region ?_
    refine L_v (opv_loadS rfl) rfl ?_
    refine L_x rfl (opx_store rfl rfl rfl (by simp [Value.oneCell'])) (fun _ _ => ?_)
    refine L_v (opv_assign rfl) rfl ?_
    refine L_v (opv_assign rfl) rfl ?_
    refine L_nil ?_
    refine K_then ?_
    refine J_ret ?_
    exact K_ret3c rfl rfl rfl rfl rfl r2 trivial rfl (Ent.take (Q := (sep ((sep (Own 73 10 (.slice r2.1 (B1.take (fB B1 x) ++ B1.drop ((fB B1 x) + 1)).length r2.2) (B1.take (fB B1 x) ++ B1.drop ((fB B1 x) + 1)).length ((B1.take (fB B1 x) ++ B1.drop ((fB B1 x) + 1)).flatMap encB)) (cel rp [.slice r2.1 (B1.take (fB B1 x) ++ B1.drop ((fB B1 x) + 1)).length r2.2, .int .i64 m, .int .i64 wt, .int .i64 now, .int .i64 dr1] 67))) (F))))
  · refine L_gt_off h1 rfl rfl ?_ (fun _ h => by cases h; rfl)
    refine L_gt_off h1 rfl rfl ?_ (fun _ h => by cases h; rfl)
    refine L_v (opv_pick_f rfl h1 rfl) rfl ?_
    refine L_nil ?_
    refine K_then ?_
    refine J_cond_false rfl ?_
    refine J_skip ?_
    refine K_then ?_
    refine J_seq ?_
    refine J_region ?_
    refine L_v (opv_move rfl) rfl ?_
    refine L_v (opv_loadS rfl) rfl ?_
    refine L_x rfl (opx_call0 (Rfind_spec rp r.1 r.2 B1 m wt now dr1 hn1 x hx hB) rfl rfl rfl) (fun _ _ => ?_)
    rw [if_pos hf]
    refine L_v (opv_assign rfl) rfl ?_
    refine L_nil ?_
    refine K_then ?_
    refine J_seq ?_
    refine J_seq ?_
    refine J_region ?_
    first
      | refine L_v (opv_fieldAddr0 rfl) rfl ?_
      | refine L_v (opv_fieldAddr rfl) rfl ?_
    refine L_v (opv_load rfl (Rd.look rfl)) rfl ?_
    refine L_v ((opv_eql rfl rfl).bool_f ho) rfl ?_
    refine L_nil ?_
    refine K_then ?_
    refine J_cond_false rfl ?_
    refine J_skip ?_
    refine K_then ?_
    refine J_seq ?_
    refine J_seq ?_
    refine J_region ?_
    refine L_v (opv_move rfl) rfl ?_
    refine L_v ((opv_lss rfl rfl).bool_f (by omega)) rfl ?_
    refine L_nil ?_
    refine K_then ?_
    refine J_cond_false rfl ?_
    refine J_skip ?_
    refine K_then ?_
    refine J_seq ?_
    obtain ⟨A1, c1⟩ := r
    refine J_imp (sep (Own 73 10 (.slice A1 B1.length c1) B1.length (B1.flatMap encB)) (sep (cel rp [.slice A1 B1.length c1, .int .i64 m, .int .i64 wt, .int .i64 now, .int .i64 dr1] 67) (sep (cel b5 [.int .i64 x.id, .bool x.more, .int .i64 x.off, .int .i64 x.ttl, .int .i64 x.proto, .string (bytesL [x.s0, x.s1, x.s2, x.s3]), .string (bytesL [x.d0, x.d1, x.d2, x.d3]), .string x.data] 36) (sep (cel b6 [.int .i64 0, .bool false, .int .i64 0, .int .i64 0, .int .i64 0, .string ⟨#[]⟩, .string ⟨#[]⟩, .string ⟨#[]⟩] 36) (F))))) ?_ ?_
    · exact Ent.take
    refine J_own (fun e1 e2 e3 => absurd hf (by rw [e2]; exact Nat.not_lt_zero _)) (fun b cap pre post e1 e2 e3 e4 e5 => ?_)
    simp only [Value.slice.injEq] at e1
    obtain ⟨rfl, _, rfl⟩ := e1
    refine J_region ?_
    refine L_v (opv_move rfl) rfl ?_
    refine L_v (opv_nilCheck rfl) rfl ?_
    first
      | refine L_v (opv_fieldAddr0 rfl) rfl ?_
      | refine L_v (opv_fieldAddr rfl) rfl ?_
    refine L_v (opv_load rfl (Rd.look rfl)) rfl ?_
    refine L_v (opv_move rfl) rfl ?_
    first
      | refine L_v (opv_indexAddr rfl rfl (by omega)) rfl ?_
      | refine L_v (opv_indexAddrA rfl rfl (by omega)) rfl ?_
    first
      | refine L_v (opv_fieldAddr0 rfl) rfl ?_
      | refine L_v (opv_fieldAddr rfl) rfl ?_
    refine L_v (opv_load rfl (Rd.elem encB_len (q := B1) (j := 9) hy rfl)) rfl ?_
    refine L_v (opv_assign rfl) rfl ?_
    refine L_nil ?_
    refine K_then ?_
    refine J_seq ?_
    refine J_region ?_
    refine L_v (opv_assign rfl) rfl ?_
    refine L_nil ?_
    refine K_then ?_
    refine J_seq ?_
    refine J_seq ?_
    refine J_region ?_
    refine L_v (opv_move rfl) rfl ?_
    first
      | refine L_v (opv_lenL rfl) rfl ?_
      | refine L_v (opv_lenS rfl) rfl ?_
    refine L_v ((opv_remP rfl rfl (by omega)).as (v' := .int .i64 ((y.data.size % 8 : Nat) : Int)) rfl) rfl ?_
    refine L_v ((opv_neq rfl rfl).bool_f (by omega)) rfl ?_
    refine L_v (opv_move rfl) rfl ?_
    refine L_gon rfl rfl rfl ?_
    first
      | refine L_v (opv_fieldAddr0 rfl) rfl ?_
      | refine L_v (opv_fieldAddr rfl) rfl ?_
    refine L_gon rfl rfl rfl ?_
    refine L_v (opv_load rfl (Rd.look rfl)) rfl ?_
    refine L_gon rfl rfl rfl ?_
    refine L_v (opv_move rfl) rfl ?_
    refine L_gon rfl rfl rfl ?_
    first
      | refine L_v (opv_lenL rfl) rfl ?_
      | refine L_v (opv_lenS rfl) rfl ?_
    refine L_gon rfl rfl rfl ?_
    refine L_v ((opv_quoP rfl rfl (by omega)).as (v' := .int .i64 ((y.data.size / 8 : Nat) : Int)) rfl) rfl ?_
    refine L_gon rfl rfl rfl ?_
    refine L_v ((opv_neq rfl rfl).bool_f (by omega)) rfl ?_
    first
      | refine L_v (opv_pick_tt rfl rfl) rfl ?_
      | refine L_v (opv_pick_ff rfl rfl) rfl ?_
      | refine L_v (opv_pick rfl rfl rfl) rfl ?_
    refine L_nil ?_
    refine K_then ?_
    refine J_cond_false rfl ?_
    refine J_seq ?_
    refine J_region ?_
    refine L_v (opv_loadS rfl) rfl ?_
    refine L_x rfl (opx_call0 (wrong_spec x) rfl rfl rfl) (fun _ _ => ?_)
    refine L_emp ?_
    rw [decide_eq_false hs2]
    refine L_nil ?_
    refine K_then ?_
    refine J_cond_false rfl ?_
    refine J_seq ?_
    refine J_region ?_
    refine L_v (opv_move rfl) rfl ?_
    first
      | refine L_v (opv_lenL rfl) rfl ?_
      | refine L_v (opv_lenS rfl) rfl ?_
    first
      | refine L_v (opv_fieldAddr0 rfl) rfl ?_
      | refine L_v (opv_fieldAddr rfl) rfl ?_
    refine L_v (opv_load rfl (Rd.look rfl)) rfl ?_
    first
      | refine L_v (opv_lenL rfl) rfl ?_
      | refine L_v (opv_lenS rfl) rfl ?_
    refine L_v ((opv_add64 rfl rfl (by omega))) rfl ?_
    refine L_v ((opv_gtr rfl rfl).bool_f (by omega)) rfl ?_
    refine L_nil ?_
    refine K_then ?_
    refine J_cond_false rfl ?_
    refine J_skip ?_
    refine K_then ?_
    refine J_seq ?_
    refine J_seq ?_
    refine J_region ?_
    refine L_v (opv_move rfl) rfl ?_
    first
      | refine L_v ((opv_neq rfl rfl).bool_t (by decide)) rfl ?_
      | refine L_v ((opv_neq rfl rfl).bool_f (by decide)) rfl ?_
    refine L_nil ?_
    refine K_then ?_
    refine J_cond_false rfl ?_
    refine J_skip ?_
    refine K_then ?_
    refine J_seq ?_
    refine J_steps ((sep (cel rp [.slice (some (ad b pre.length)) B1.length c1, .int .i64 m, .int .i64 wt, .int .i64 now, .int .i64 dr1] 67) (cel b5 [.int .i64 x.id, .bool x.more, .int .i64 x.off, .int .i64 x.ttl, .int .i64 x.proto, .string (bytesL [x.s0, x.s1, x.s2, x.s3]), .string (bytesL [x.d0, x.d1, x.d2, x.d3]), .string x.data] 36))) ((sep (cel rp [.slice (some (ad b pre.length)) B1.length c1, .int .i64 m, .int .i64 wt, .int .i64 now, .int .i64 dr1] 67) (sep (cel b5 [.int .i64 x.id, .bool x.more, .int .i64 x.off, .int .i64 x.ttl, .int .i64 x.proto, .string (bytesL [x.s0, x.s1, x.s2, x.s3]), .string (bytesL [x.d0, x.d1, x.d2, x.d3]), .string x.data] 36) (cel b (pre ++ B1.flatMap encB ++ post) 73)))) [11] Try.mixed ?_
    refine R_pure 0 rfl (by kernel_rfl) (by kernel_rfl) (by kernel_rfl) (by kernel_rfl) (.inr ⟨_, Take.eq (A := (sep (cel rp [.slice (some (ad b pre.length)) B1.length c1, .int .i64 m, .int .i64 wt, .int .i64 now, .int .i64 dr1] 67) (sep (cel b5 [.int .i64 x.id, .bool x.more, .int .i64 x.off, .int .i64 x.ttl, .int .i64 x.proto, .string (bytesL [x.s0, x.s1, x.s2, x.s3]), .string (bytesL [x.d0, x.d1, x.d2, x.d3]), .string x.data] 36) (cel b (pre ++ B1.flatMap encB ++ post) 73))))⟩) (opv_move rfl) rfl ?_
    refine R_pure 1 rfl (by kernel_rfl) (by kernel_rfl) (by kernel_rfl) (by kernel_rfl) (.inr ⟨_, Take.eq (A := (sep (cel rp [.slice (some (ad b pre.length)) B1.length c1, .int .i64 m, .int .i64 wt, .int .i64 now, .int .i64 dr1] 67) (sep (cel b5 [.int .i64 x.id, .bool x.more, .int .i64 x.off, .int .i64 x.ttl, .int .i64 x.proto, .string (bytesL [x.s0, x.s1, x.s2, x.s3]), .string (bytesL [x.d0, x.d1, x.d2, x.d3]), .string x.data] 36) (cel b (pre ++ B1.flatMap encB ++ post) 73))))⟩) (opv_nilCheck rfl) rfl ?_
    first
      | refine R_pure 2 rfl (by kernel_rfl) (by kernel_rfl) (by kernel_rfl) (by kernel_rfl) (.inr ⟨_, Take.eq (A := (sep (cel rp [.slice (some (ad b pre.length)) B1.length c1, .int .i64 m, .int .i64 wt, .int .i64 now, .int .i64 dr1] 67) (sep (cel b5 [.int .i64 x.id, .bool x.more, .int .i64 x.off, .int .i64 x.ttl, .int .i64 x.proto, .string (bytesL [x.s0, x.s1, x.s2, x.s3]), .string (bytesL [x.d0, x.d1, x.d2, x.d3]), .string x.data] 36) (cel b (pre ++ B1.flatMap encB ++ post) 73))))⟩) (opv_fieldAddr0 rfl) rfl ?_
      | refine R_pure 2 rfl (by kernel_rfl) (by kernel_rfl) (by kernel_rfl) (by kernel_rfl) (.inr ⟨_, Take.eq (A := (sep (cel rp [.slice (some (ad b pre.length)) B1.length c1, .int .i64 m, .int .i64 wt, .int .i64 now, .int .i64 dr1] 67) (sep (cel b5 [.int .i64 x.id, .bool x.more, .int .i64 x.off, .int .i64 x.ttl, .int .i64 x.proto, .string (bytesL [x.s0, x.s1, x.s2, x.s3]), .string (bytesL [x.d0, x.d1, x.d2, x.d3]), .string x.data] 36) (cel b (pre ++ B1.flatMap encB ++ post) 73))))⟩) (opv_fieldAddr rfl) rfl ?_
    refine R_take 3 rfl (by kernel_rfl) (by kernel_rfl) (by kernel_rfl) (by kernel_rfl) (by kernel_rfl) (opv_load rfl (Rd.look rfl)) rfl ?_
    refine R_pure 4 rfl (by kernel_rfl) (by kernel_rfl) (by kernel_rfl) (by kernel_rfl) (.inr ⟨_, Take.eq (A := (sep (cel rp [.slice (some (ad b pre.length)) B1.length c1, .int .i64 m, .int .i64 wt, .int .i64 now, .int .i64 dr1] 67) (sep (cel b5 [.int .i64 x.id, .bool x.more, .int .i64 x.off, .int .i64 x.ttl, .int .i64 x.proto, .string (bytesL [x.s0, x.s1, x.s2, x.s3]), .string (bytesL [x.d0, x.d1, x.d2, x.d3]), .string x.data] 36) (cel b (pre ++ B1.flatMap encB ++ post) 73))))⟩) (opv_move rfl) rfl ?_
    refine R_pure 5 rfl (by kernel_rfl) (by kernel_rfl) (by kernel_rfl) (by kernel_rfl) (.inr ⟨_, Take.eq (A := (sep (cel rp [.slice (some (ad b pre.length)) B1.length c1, .int .i64 m, .int .i64 wt, .int .i64 now, .int .i64 dr1] 67) (sep (cel b5 [.int .i64 x.id, .bool x.more, .int .i64 x.off, .int .i64 x.ttl, .int .i64 x.proto, .string (bytesL [x.s0, x.s1, x.s2, x.s3]), .string (bytesL [x.d0, x.d1, x.d2, x.d3]), .string x.data] 36) (cel b (pre ++ B1.flatMap encB ++ post) 73))))⟩) (opv_move rfl) rfl ?_
    first
      | refine R_pure 6 rfl (by kernel_rfl) (by kernel_rfl) (by kernel_rfl) (by kernel_rfl) (.inr ⟨_, Take.eq (A := (sep (cel rp [.slice (some (ad b pre.length)) B1.length c1, .int .i64 m, .int .i64 wt, .int .i64 now, .int .i64 dr1] 67) (sep (cel b5 [.int .i64 x.id, .bool x.more, .int .i64 x.off, .int .i64 x.ttl, .int .i64 x.proto, .string (bytesL [x.s0, x.s1, x.s2, x.s3]), .string (bytesL [x.d0, x.d1, x.d2, x.d3]), .string x.data] 36) (cel b (pre ++ B1.flatMap encB ++ post) 73))))⟩) (opv_fieldAddr0 rfl) rfl ?_
      | refine R_pure 6 rfl (by kernel_rfl) (by kernel_rfl) (by kernel_rfl) (by kernel_rfl) (.inr ⟨_, Take.eq (A := (sep (cel rp [.slice (some (ad b pre.length)) B1.length c1, .int .i64 m, .int .i64 wt, .int .i64 now, .int .i64 dr1] 67) (sep (cel b5 [.int .i64 x.id, .bool x.more, .int .i64 x.off, .int .i64 x.ttl, .int .i64 x.proto, .string (bytesL [x.s0, x.s1, x.s2, x.s3]), .string (bytesL [x.d0, x.d1, x.d2, x.d3]), .string x.data] 36) (cel b (pre ++ B1.flatMap encB ++ post) 73))))⟩) (opv_fieldAddr rfl) rfl ?_
    refine R_take 7 rfl (by kernel_rfl) (by kernel_rfl) (by kernel_rfl) (by kernel_rfl) (by kernel_rfl) (opv_load rfl (Rd.look rfl)) rfl ?_
    refine R_pure 8 rfl (by kernel_rfl) (by kernel_rfl) (by kernel_rfl) (by kernel_rfl) (.inr ⟨_, Take.eq (A := (sep (cel rp [.slice (some (ad b pre.length)) B1.length c1, .int .i64 m, .int .i64 wt, .int .i64 now, .int .i64 dr1] 67) (sep (cel b5 [.int .i64 x.id, .bool x.more, .int .i64 x.off, .int .i64 x.ttl, .int .i64 x.proto, .string (bytesL [x.s0, x.s1, x.s2, x.s3]), .string (bytesL [x.d0, x.d1, x.d2, x.d3]), .string x.data] 36) (cel b (pre ++ B1.flatMap encB ++ post) 73))))⟩) ((opv_addS rfl rfl (by omega))) rfl ?_
    refine R_pure 9 rfl (by kernel_rfl) (by kernel_rfl) (by kernel_rfl) (by kernel_rfl) (.inr ⟨_, Take.eq (A := (sep (cel rp [.slice (some (ad b pre.length)) B1.length c1, .int .i64 m, .int .i64 wt, .int .i64 now, .int .i64 dr1] 67) (sep (cel b5 [.int .i64 x.id, .bool x.more, .int .i64 x.off, .int .i64 x.ttl, .int .i64 x.proto, .string (bytesL [x.s0, x.s1, x.s2, x.s3]), .string (bytesL [x.d0, x.d1, x.d2, x.d3]), .string x.data] 36) (cel b (pre ++ B1.flatMap encB ++ post) 73))))⟩) (opv_indexAddr rfl rfl (by omega)) rfl ?_
    first
      | refine R_pure 10 rfl (by kernel_rfl) (by kernel_rfl) (by kernel_rfl) (by kernel_rfl) (.inr ⟨_, Take.eq (A := (sep (cel rp [.slice (some (ad b pre.length)) B1.length c1, .int .i64 m, .int .i64 wt, .int .i64 now, .int .i64 dr1] 67) (sep (cel b5 [.int .i64 x.id, .bool x.more, .int .i64 x.off, .int .i64 x.ttl, .int .i64 x.proto, .string (bytesL [x.s0, x.s1, x.s2, x.s3]), .string (bytesL [x.d0, x.d1, x.d2, x.d3]), .string x.data] 36) (cel b (pre ++ B1.flatMap encB ++ post) 73))))⟩) (opv_fieldAddr0 rfl) rfl ?_
      | refine R_pure 10 rfl (by kernel_rfl) (by kernel_rfl) (by kernel_rfl) (by kernel_rfl) (.inr ⟨_, Take.eq (A := (sep (cel rp [.slice (some (ad b pre.length)) B1.length c1, .int .i64 m, .int .i64 wt, .int .i64 now, .int .i64 dr1] 67) (sep (cel b5 [.int .i64 x.id, .bool x.more, .int .i64 x.off, .int .i64 x.ttl, .int .i64 x.proto, .string (bytesL [x.s0, x.s1, x.s2, x.s3]), .string (bytesL [x.d0, x.d1, x.d2, x.d3]), .string x.data] 36) (cel b (pre ++ B1.flatMap encB ++ post) 73))))⟩) (opv_fieldAddr rfl) rfl ?_
    refine R_only 11 rfl rfl (by kernel_rfl) (opx_storeAt (m := 1) (vs := [.string (y.data ++ x.data)]) (l' := pre ++ (B1.set (fB B1 x) (⟨y.p, y.t, y.data ++ x.data⟩ : Bgr)).flatMap encB ++ post) rfl rfl rfl (by simp [Value.oneCell']) (by simp only [List.length_append, Int.toNat_natCast, List.length_singleton]; omega) (by rw [Int.toNat_natCast]; exact flat9 pre post hy)) (fun _ _ => ⟨_, Take.eq (A := (sep (cel rp [.slice (some (ad b pre.length)) B1.length c1, .int .i64 m, .int .i64 wt, .int .i64 now, .int .i64 dr1] 67) (cel b5 [.int .i64 x.id, .bool x.more, .int .i64 x.off, .int .i64 x.ttl, .int .i64 x.proto, .string (bytesL [x.s0, x.s1, x.s2, x.s3]), .string (bytesL [x.d0, x.d1, x.d2, x.d3]), .string x.data] 36)))⟩) (.inl (by kernel_rfl)) (fun _ _ => ?_)
    refine R_done (by kernel_rfl) ?_
    refine K_then ?_
    refine J_seq ?_
    refine J_seq ?_
    refine J_region ?_
    first
      | refine L_v (opv_fieldAddr0 rfl) rfl ?_
      | refine L_v (opv_fieldAddr rfl) rfl ?_
    refine L_v ((opv_load rfl (Rd.look rfl)).as (v' := .bool false) (by rw [hm])) rfl ?_
    refine L_nil ?_
    refine K_then ?_
    refine J_cond_false rfl ?_
    refine J_skip ?_
    refine K_then ?_
    refine J_seq ?_
    refine J_imp (sep (Own 73 10 (.slice (some (ad b pre.length)) (B1.set (fB B1 x) (⟨y.p, y.t, y.data ++ x.data⟩ : Bgr)).length c1) (B1.set (fB B1 x) (⟨y.p, y.t, y.data ++ x.data⟩ : Bgr)).length ((B1.set (fB B1 x) (⟨y.p, y.t, y.data ++ x.data⟩ : Bgr)).flatMap encB)) (sep (cel rp [.slice (some (ad b pre.length)) (B1.set (fB B1 x) (⟨y.p, y.t, y.data ++ x.data⟩ : Bgr)).length c1, .int .i64 m, .int .i64 wt, .int .i64 now, .int .i64 dr1] 67) (sep (cel b5 [.int .i64 x.id, .bool x.more, .int .i64 x.off, .int .i64 x.ttl, .int .i64 x.proto, .string (bytesL [x.s0, x.s1, x.s2, x.s3]), .string (bytesL [x.d0, x.d1, x.d2, x.d3]), .string x.data] 36) (sep (cel b6 [.int .i64 0, .bool false, .int .i64 0, .int .i64 0, .int .i64 0, .string ⟨#[]⟩, .string ⟨#[]⟩, .string ⟨#[]⟩] 36) (F))))) (Ent.trans (Ent.take (Q := (sep (cel b (pre ++ (B1.set (fB B1 x) (⟨y.p, y.t, y.data ++ x.data⟩ : Bgr)).flatMap encB ++ post) 73) (sep (cel rp [.slice (some (ad b pre.length)) B1.length c1, .int .i64 m, .int .i64 wt, .int .i64 now, .int .i64 dr1] 67) (sep (cel b5 [.int .i64 x.id, .bool x.more, .int .i64 x.off, .int .i64 x.ttl, .int .i64 x.proto, .string (bytesL [x.s0, x.s1, x.s2, x.s3]), .string (bytesL [x.d0, x.d1, x.d2, x.d3]), .string x.data] 36) (sep (cel b6 [.int .i64 0, .bool false, .int .i64 0, .int .i64 0, .int .i64 0, .string ⟨#[]⟩, .string ⟨#[]⟩, .string ⟨#[]⟩] 36) (F))))))) (Ent.trans (Ent.frame (Own.mk (e := 73) (m := 10) (len := B1.length) (v := .slice (some (ad b pre.length)) B1.length c1) rfl e2 e3 (by rw [flat_len encB_len, List.length_set]) e5) _) (Ent.of (by rw [List.length_set])))) ?_
    refine J_region ?_
    refine L_v (opv_move rfl) rfl ?_
    refine L_v (opv_move rfl) rfl ?_
    refine L_x rfl (opx_call0 (Rdrop_spec rp (some (ad b pre.length)) c1 (B1.set (fB B1 x) (⟨y.p, y.t, y.data ++ x.data⟩ : Bgr)) m wt now dr1 (by rw [List.length_set]; exact hn1) (fB B1 x) (by rw [List.length_set]; exact hf)) rfl rfl rfl) (fun r2 _ => ?_)
    rw [hQ]
    refine L_nil ?_
    refine K_then ?_
    refine J_seq ?_
    refine J_region ?_
    first
      | refine L_v (opv_fieldAddr0 rfl) rfl ?_
      | refine L_v (opv_fieldAddr rfl) rfl ?_
    refine L_x rfl (opx_store rfl rfl rfl (by simp [Value.oneCell'])) (fun _ _ => ?_)
    refine L_nil ?_
    refine K_then ?_
    refine J_seq ?_
    refine J_region ?_
    refine L_v (opv_move rfl) rfl ?_
    first
      | refine L_v (opv_fieldAddr0 rfl) rfl ?_
      | refine L_v (opv_fieldAddr rfl) rfl ?_
    refine L_v (opv_load rfl (Rd.look rfl)) rfl ?_
    refine L_v ((opv_addS rfl rfl (by omega))) rfl ?_
    first
      | refine L_v (opv_fieldAddr0 rfl) rfl ?_
      | refine L_v (opv_fieldAddr rfl) rfl ?_
    refine L_x rfl (opx_store rfl rfl rfl (by simp [Value.oneCell'])) (fun _ _ => ?_)
    refine L_nil ?_
    refine K_then ?_
    refine J_seq ?_
    refine J_region ?_
    refine L_v (opv_loadS rfl) rfl ?_
    refine L_x rfl (opx_store rfl rfl rfl (by simp [Value.oneCell'])) (fun _ _ => ?_)
    refine L_v (opv_assign rfl) rfl ?_
    refine L_v (opv_assign rfl) rfl ?_
    refine L_nil ?_
    refine K_then ?_
    refine J_ret ?_
    exact K_ret3c rfl rfl rfl rfl rfl r2 trivial rfl (Ent.take (Q := (sep ((sep (Own 73 10 (.slice r2.1 (B1.take (fB B1 x) ++ B1.drop ((fB B1 x) + 1)).length r2.2) (B1.take (fB B1 x) ++ B1.drop ((fB B1 x) + 1)).length ((B1.take (fB B1 x) ++ B1.drop ((fB B1 x) + 1)).flatMap encB)) (cel rp [.slice r2.1 (B1.take (fB B1 x) ++ B1.drop ((fB B1 x) + 1)).length r2.2, .int .i64 m, .int .i64 wt, .int .i64 now, .int .i64 dr1] 67))) (F))))

end Go.Proofs.Ytjpbpfihacfndaa
