/- Contracts of the functions of the document's table, each proved by a walk over its code; they are used by the texts that import this one. -/
import Derived.Test.YtjpbpfihacfndaaRm
import Derived.Test.YtjpbpfihacfndaaH
namespace Go.Proofs.Ytjpbpfihacfndaa
open Go.SLA
set_option maxRecDepth 100000
set_option linter.unusedVariables false
set_option linter.unusedSimpArgs false
attribute [local irreducible] J L K QL Rg FSpec OpV OpX Rd Back
theorem wrong_spec (x : Pk) : FSpec Try.prog 57 #[.agg [.int .i64 x.id, .bool x.more, .int .i64 x.off, .int .i64 x.ttl, .int .i64 x.proto, .string (bytesL [x.s0, x.s1, x.s2, x.s3]), .string (bytesL [x.d0, x.d1, x.d2, x.d3]), .string x.data].toArray] (emp) (fun _ : Unit => True) (fun _ => .bool (decide (x.more = true ∧ (x.data.size = 0 ∨ x.data.size % 8 ≠ 0)))) (fun _ => emp) := by
  refine FSpec.enter' Try.func57 rfl Try.ntmps57 rfl fun σ F => ?_
  refine J_emp ?_
  refine J_seq ?_
  refine J_region ?_
  refine L_x rfl (opx_box (l := [.int .i64 x.id, .bool x.more, .int .i64 x.off, .int .i64 x.ttl, .int .i64 x.proto, .string (bytesL [x.s0, x.s1, x.s2, x.s3]), .string (bytesL [x.d0, x.d1, x.d2, x.d3]), .string x.data]) rfl rfl) (fun b1 _ => ?_)
  refine L_v (opv_assign rfl) rfl ?_
  refine L_nil ?_
  refine K_then ?_
  refine J_seq ?_
  refine J_region ?_
  first
    | refine L_v (opv_fieldAddr0 rfl) rfl ?_
    | refine L_v (opv_fieldAddr rfl) rfl ?_
  refine L_v ((opv_load rfl (Rd.look rfl)).as (v' := .bool (decide (x.more = true))) (by simp)) rfl ?_
  refine L_v (opv_move rfl) rfl ?_
  refine L_gt rfl rfl (fun h1 => ?_) (fun h1 => ?_) (fun _ h => by cases h; rfl)
  · first
      | refine L_v (opv_fieldAddr0 rfl) rfl ?_
      | refine L_v (opv_fieldAddr rfl) rfl ?_
    refine L_gt_on h1 rfl rfl ?_
    refine L_v (opv_load rfl (Rd.look rfl)) rfl ?_
    refine L_gt_on h1 rfl rfl ?_
    refine L_v ((opv_eqlS rfl rfl).as (v' := .bool (decide (x.data.size = 0))) (congrArg Value.bool (decide_eq_decide.2 bytes0))) rfl ?_
    refine L_gt_on h1 rfl rfl ?_
    refine L_v (opv_move rfl) rfl ?_
    refine L_gf rfl rfl (fun h2 => ?_) (fun h2 => ?_) (fun _ h => by cases h; rfl)
    · first
        | refine L_v (opv_fieldAddr0 rfl) rfl ?_
        | refine L_v (opv_fieldAddr rfl) rfl ?_
      refine L_gf_on h2 rfl rfl ?_
      refine L_v (opv_load rfl (Rd.look rfl)) rfl ?_
      refine L_gf_on h2 rfl rfl ?_
      first
        | refine L_v (opv_lenL rfl) rfl ?_
        | refine L_v (opv_lenS rfl) rfl ?_
      refine L_gf_on h2 rfl rfl ?_
      refine L_v ((opv_remP rfl rfl (by omega)).as (v' := .int .i64 ((x.data.size % 8 : Nat) : Int)) rfl) rfl ?_
      refine L_gf_on h2 rfl rfl ?_
      refine L_v ((opv_neq rfl rfl).as (v' := .bool (decide (x.data.size % 8 ≠ 0))) (congrArg Value.bool (decide_eq_decide.2 (by omega)))) rfl ?_
      refine L_gt_on h1 rfl rfl ?_
      refine L_v (opv_pick_f rfl h2 rfl) rfl ?_
      refine L_v (opv_pick_t rfl h1 rfl) rfl ?_
      refine L_v (opv_assign rfl) rfl ?_
      refine L_nil ?_
      refine K_then ?_
      refine J_ret ?_
      exact K_ret1 rfl rfl () trivial (congrArg Value.bool (by by_cases g1 : x.more = true <;> by_cases g2 : x.data.size = 0 <;> by_cases g3 : x.data.size % 8 = 0 <;> simp_all)) Ent.take
    · refine L_gf_off h2 rfl rfl ?_ (fun _ h => by cases h; rfl)
      refine L_gf_off h2 rfl rfl ?_ (fun _ h => by cases h; rfl)
      refine L_gf_off h2 rfl rfl ?_ (fun _ h => by cases h; rfl)
      refine L_gf_off h2 rfl rfl ?_ (fun _ h => by cases h; rfl)
      refine L_gt_on h1 rfl rfl ?_
      refine L_v (opv_pick_t rfl h2 rfl) rfl ?_
      refine L_v (opv_pick_t rfl h1 rfl) rfl ?_
      refine L_v (opv_assign rfl) rfl ?_
      refine L_nil ?_
      refine K_then ?_
      refine J_ret ?_
      exact K_ret1 rfl rfl () trivial (congrArg Value.bool (by by_cases g1 : x.more = true <;> by_cases g2 : x.data.size = 0 <;> by_cases g3 : x.data.size % 8 = 0 <;> simp_all)) Ent.take
  · refine L_gt_off h1 rfl rfl ?_ (fun _ h => by cases h; rfl)
    refine L_gt_off h1 rfl rfl ?_ (fun _ h => by cases h; rfl)
    refine L_gskipU rfl rfl (by simp [h1]) rfl ?_
    refine L_gU rfl rfl rfl ?_
    refine L_gU rfl rfl rfl ?_
    refine L_gU rfl rfl rfl ?_
    refine L_gU rfl rfl rfl ?_
    refine L_gU rfl rfl rfl ?_
    refine L_gt_off h1 rfl rfl ?_ (fun _ h => by cases h; rfl)
    refine L_v (opv_pick_f rfl h1 rfl) rfl ?_
    refine L_v (opv_assign rfl) rfl ?_
    refine L_nil ?_
    refine K_then ?_
    refine J_ret ?_
    exact K_ret1 rfl rfl () trivial (congrArg Value.bool (by by_cases g1 : x.more = true <;> by_cases g2 : x.data.size = 0 <;> by_cases g3 : x.data.size % 8 = 0 <;> simp_all)) Ent.take

theorem RSame_spec (x y : Pk) (hx : okA x) (hy : okA y) : FSpec Try.prog 36 #[.agg [.int .i64 x.id, .bool x.more, .int .i64 x.off, .int .i64 x.ttl, .int .i64 x.proto, .string (bytesL [x.s0, x.s1, x.s2, x.s3]), .string (bytesL [x.d0, x.d1, x.d2, x.d3]), .string x.data].toArray, .agg [.int .i64 y.id, .bool y.more, .int .i64 y.off, .int .i64 y.ttl, .int .i64 y.proto, .string (bytesL [y.s0, y.s1, y.s2, y.s3]), .string (bytesL [y.d0, y.d1, y.d2, y.d3]), .string y.data].toArray] (emp) (fun _ : Unit => True) (fun _ => .bool (decide (kyOf x = kyOf y))) (fun _ => emp) := by
  refine FSpec.enter' Try.func36 rfl Try.ntmps36 rfl fun σ F => ?_
  refine J_emp ?_
  refine J_seq ?_
  refine J_region ?_
  refine L_x rfl (opx_box (l := [.int .i64 x.id, .bool x.more, .int .i64 x.off, .int .i64 x.ttl, .int .i64 x.proto, .string (bytesL [x.s0, x.s1, x.s2, x.s3]), .string (bytesL [x.d0, x.d1, x.d2, x.d3]), .string x.data]) rfl rfl) (fun b2 _ => ?_)
  refine L_x rfl (opx_box (l := [.int .i64 y.id, .bool y.more, .int .i64 y.off, .int .i64 y.ttl, .int .i64 y.proto, .string (bytesL [y.s0, y.s1, y.s2, y.s3]), .string (bytesL [y.d0, y.d1, y.d2, y.d3]), .string y.data]) rfl rfl) (fun b3 _ => ?_)
  refine L_v (opv_assign rfl) rfl ?_
  refine L_nil ?_
  refine K_then ?_
  refine J_seq ?_
  refine J_region ?_
  first
    | refine L_v (opv_fieldAddr0 rfl) rfl ?_
    | refine L_v (opv_fieldAddr rfl) rfl ?_
  refine L_v (opv_load rfl (Rd.look rfl)) rfl ?_
  first
    | refine L_v (opv_fieldAddr0 rfl) rfl ?_
    | refine L_v (opv_fieldAddr rfl) rfl ?_
  refine L_v (opv_load rfl (Rd.look rfl)) rfl ?_
  refine L_v ((opv_eqlS rfl rfl).as (v' := .bool (decide (ks4 x = ks4 y))) (congrArg Value.bool (decide_eq_decide.2 (s_iff hx hy)))) rfl ?_
  refine L_v (opv_move rfl) rfl ?_
  refine L_gt rfl rfl (fun h1 => ?_) (fun h1 => ?_) (fun _ h => by cases h; rfl)
  · first
      | refine L_v (opv_fieldAddr0 rfl) rfl ?_
      | refine L_v (opv_fieldAddr rfl) rfl ?_
    refine L_gt_on h1 rfl rfl ?_
    refine L_v (opv_load rfl (Rd.look rfl)) rfl ?_
    refine L_gt_on h1 rfl rfl ?_
    first
      | refine L_v (opv_fieldAddr0 rfl) rfl ?_
      | refine L_v (opv_fieldAddr rfl) rfl ?_
    refine L_gt_on h1 rfl rfl ?_
    refine L_v (opv_load rfl (Rd.look rfl)) rfl ?_
    refine L_gt_on h1 rfl rfl ?_
    refine L_v ((opv_eqlS rfl rfl).as (v' := .bool (decide (kd4 x = kd4 y))) (congrArg Value.bool (decide_eq_decide.2 (d_iff hx hy)))) rfl ?_
    refine L_v (opv_pick_t rfl h1 rfl) rfl ?_
    refine L_v (opv_move rfl) rfl ?_
    refine L_gt rfl rfl (fun h2 => ?_) (fun h2 => ?_) (fun _ h => by cases h; rfl)
    · first
        | refine L_v (opv_fieldAddr0 rfl) rfl ?_
        | refine L_v (opv_fieldAddr rfl) rfl ?_
      refine L_gt_on h2 rfl rfl ?_
      refine L_v (opv_load rfl (Rd.look rfl)) rfl ?_
      refine L_gt_on h2 rfl rfl ?_
      first
        | refine L_v (opv_fieldAddr0 rfl) rfl ?_
        | refine L_v (opv_fieldAddr rfl) rfl ?_
      refine L_gt_on h2 rfl rfl ?_
      refine L_v (opv_load rfl (Rd.look rfl)) rfl ?_
      refine L_gt_on h2 rfl rfl ?_
      first
        | refine L_v (opv_eql rfl rfl) rfl ?_
        | refine L_v (opv_eqlS rfl rfl) rfl ?_
        | refine L_v (opv_eqlNil rfl rfl) rfl ?_
        | refine L_v (opv_eqlB rfl rfl) rfl ?_
      refine L_v (opv_pick_t rfl h2 rfl) rfl ?_
      refine L_v (opv_move rfl) rfl ?_
      refine L_gt rfl rfl (fun h3 => ?_) (fun h3 => ?_) (fun _ h => by cases h; rfl)
      · first
          | refine L_v (opv_fieldAddr0 rfl) rfl ?_
          | refine L_v (opv_fieldAddr rfl) rfl ?_
        refine L_gt_on h3 rfl rfl ?_
        refine L_v (opv_load rfl (Rd.look rfl)) rfl ?_
        refine L_gt_on h3 rfl rfl ?_
        first
          | refine L_v (opv_fieldAddr0 rfl) rfl ?_
          | refine L_v (opv_fieldAddr rfl) rfl ?_
        refine L_gt_on h3 rfl rfl ?_
        refine L_v (opv_load rfl (Rd.look rfl)) rfl ?_
        refine L_gt_on h3 rfl rfl ?_
        first
          | refine L_v (opv_eql rfl rfl) rfl ?_
          | refine L_v (opv_eqlS rfl rfl) rfl ?_
          | refine L_v (opv_eqlNil rfl rfl) rfl ?_
          | refine L_v (opv_eqlB rfl rfl) rfl ?_
        refine L_v (opv_pick_t rfl h3 rfl) rfl ?_
        refine L_v (opv_assign rfl) rfl ?_
        refine L_nil ?_
        refine K_then ?_
        refine J_ret ?_
        exact K_ret1 rfl rfl () trivial (congrArg Value.bool (by have e := ky_iff (x := x) (y := y); by_cases g1 : ks4 x = ks4 y <;> by_cases g2 : kd4 x = kd4 y <;> by_cases g3 : x.proto = y.proto <;> by_cases g4 : x.id = y.id <;> simp_all)) Ent.take
      · refine L_gt_off h3 rfl rfl ?_ (fun _ h => by cases h; rfl)
        refine L_gt_off h3 rfl rfl ?_ (fun _ h => by cases h; rfl)
        refine L_gt_off h3 rfl rfl ?_ (fun _ h => by cases h; rfl)
        refine L_gt_off h3 rfl rfl ?_ (fun _ h => by cases h; rfl)
        refine L_v (opv_pick_f rfl h3 rfl) rfl ?_
        refine L_v (opv_assign rfl) rfl ?_
        refine L_nil ?_
        refine K_then ?_
        refine J_ret ?_
        exact K_ret1 rfl rfl () trivial (congrArg Value.bool (by have e := ky_iff (x := x) (y := y); by_cases g1 : ks4 x = ks4 y <;> by_cases g2 : kd4 x = kd4 y <;> by_cases g3 : x.proto = y.proto <;> by_cases g4 : x.id = y.id <;> simp_all)) Ent.take
    · refine L_gt_off h2 rfl rfl ?_ (fun _ h => by cases h; rfl)
      refine L_gt_off h2 rfl rfl ?_ (fun _ h => by cases h; rfl)
      refine L_gt_off h2 rfl rfl ?_ (fun _ h => by cases h; rfl)
      refine L_gt_off h2 rfl rfl ?_ (fun _ h => by cases h; rfl)
      refine L_v (opv_pick_f rfl h2 rfl) rfl ?_
      refine L_v (opv_move rfl) rfl ?_
      refine L_gskip rfl rfl rfl ?_ (fun _ h => by cases h; rfl)
      refine L_gskip rfl rfl rfl ?_ (fun _ h => by cases h; rfl)
      refine L_gskip rfl rfl rfl ?_ (fun _ h => by cases h; rfl)
      refine L_gskip rfl rfl rfl ?_ (fun _ h => by cases h; rfl)
      refine L_gskip rfl rfl rfl ?_ (fun _ h => by cases h; rfl)
      first
        | refine L_v (opv_pick_tt rfl rfl) rfl ?_
        | refine L_v (opv_pick_ff rfl rfl) rfl ?_
        | refine L_v (opv_pick rfl rfl rfl) rfl ?_
      refine L_v (opv_assign rfl) rfl ?_
      refine L_nil ?_
      refine K_then ?_
      refine J_ret ?_
      exact K_ret1 rfl rfl () trivial (congrArg Value.bool (by have e := ky_iff (x := x) (y := y); by_cases g1 : ks4 x = ks4 y <;> by_cases g2 : kd4 x = kd4 y <;> by_cases g3 : x.proto = y.proto <;> by_cases g4 : x.id = y.id <;> simp_all)) Ent.take
  · refine L_gt_off h1 rfl rfl ?_ (fun _ h => by cases h; rfl)
    refine L_gt_off h1 rfl rfl ?_ (fun _ h => by cases h; rfl)
    refine L_gt_off h1 rfl rfl ?_ (fun _ h => by cases h; rfl)
    refine L_gt_off h1 rfl rfl ?_ (fun _ h => by cases h; rfl)
    refine L_v (opv_pick_f rfl h1 rfl) rfl ?_
    refine L_v (opv_move rfl) rfl ?_
    refine L_gskip rfl rfl rfl ?_ (fun _ h => by cases h; rfl)
    refine L_gskip rfl rfl rfl ?_ (fun _ h => by cases h; rfl)
    refine L_gskip rfl rfl rfl ?_ (fun _ h => by cases h; rfl)
    refine L_gskip rfl rfl rfl ?_ (fun _ h => by cases h; rfl)
    refine L_gskip rfl rfl rfl ?_ (fun _ h => by cases h; rfl)
    first
      | refine L_v (opv_pick_tt rfl rfl) rfl ?_
      | refine L_v (opv_pick_ff rfl rfl) rfl ?_
      | refine L_v (opv_pick rfl rfl rfl) rfl ?_
    refine L_v (opv_move rfl) rfl ?_
    refine L_gskip rfl rfl rfl ?_ (fun _ h => by cases h; rfl)
    refine L_gskip rfl rfl rfl ?_ (fun _ h => by cases h; rfl)
    refine L_gskip rfl rfl rfl ?_ (fun _ h => by cases h; rfl)
    refine L_gskip rfl rfl rfl ?_ (fun _ h => by cases h; rfl)
    refine L_gskip rfl rfl rfl ?_ (fun _ h => by cases h; rfl)
    first
      | refine L_v (opv_pick_tt rfl rfl) rfl ?_
      | refine L_v (opv_pick_ff rfl rfl) rfl ?_
      | refine L_v (opv_pick rfl rfl rfl) rfl ?_
    refine L_v (opv_assign rfl) rfl ?_
    refine L_nil ?_
    refine K_then ?_
    refine J_ret ?_
    exact K_ret1 rfl rfl () trivial (congrArg Value.bool (by have e := ky_iff (x := x) (y := y); by_cases g1 : ks4 x = ks4 y <;> by_cases g2 : kd4 x = kd4 y <;> by_cases g3 : x.proto = y.proto <;> by_cases g4 : x.id = y.id <;> simp_all)) Ent.take

theorem Rfind_spec (rp : Nat) (A : Option Addr) (c : Nat) (B : List Bgr) (m wt now0 dr : Int) (hn : B.length ≤ 1000000) (x : Pk) (hx : okA x) (hB : ∀ b ∈ B, okA b.p) : FSpec Try.prog 55 #[.pointer (some (ad rp 0)), .agg [.int .i64 x.id, .bool x.more, .int .i64 x.off, .int .i64 x.ttl, .int .i64 x.proto, .string (bytesL [x.s0, x.s1, x.s2, x.s3]), .string (bytesL [x.d0, x.d1, x.d2, x.d3]), .string x.data].toArray] ((sep (Own 73 10 (.slice A B.length c) B.length (B.flatMap encB)) (cel rp [.slice A B.length c, .int .i64 m, .int .i64 wt, .int .i64 now0, .int .i64 dr] 67))) (fun _ : Unit => True) (fun _ => .int .i64 (if fB B x < B.length then ((fB B x : Nat) : Int) else -1)) (fun _ => (sep (Own 73 10 (.slice A B.length c) B.length (B.flatMap encB)) (cel rp [.slice A B.length c, .int .i64 m, .int .i64 wt, .int .i64 now0, .int .i64 dr] 67))) := by
  refine FSpec.enter' Try.func55 rfl Try.ntmps55 rfl fun σ F => ?_
  refine J_eq _ (sep_assoc _ _ _) ?_
  refine J_know (fun w hs => own_nonnil hs) fun hA => ?_
  refine J_know (fun w hs => own_cap hs) fun hcap => ?_
  refine J_seq ?_
  refine J_region ?_
  refine L_x rfl (opx_box (l := [.int .i64 x.id, .bool x.more, .int .i64 x.off, .int .i64 x.ttl, .int .i64 x.proto, .string (bytesL [x.s0, x.s1, x.s2, x.s3]), .string (bytesL [x.d0, x.d1, x.d2, x.d3]), .string x.data]) rfl rfl) (fun b3 _ => ?_)
  refine L_v (opv_assign rfl) rfl ?_
  refine L_nil ?_
  refine K_then ?_
  refine J_seq ?_
  refine J_seq ?_
  refine J_region ?_
  refine L_v (opv_assign rfl) rfl ?_
  refine L_nil ?_
  refine K_then ?_
  refine J_block ?_
  refine J_loop (X := Nat) (fun k => [(0, .pointer (some (ad rp 0))), (3, .pointer (some (ad b3 0))), (5, .int .i64 k)]) (fun k => (sep (Own 73 10 (.slice A B.length c) B.length (B.flatMap encB)) (sep (cel rp [.slice A B.length c, .int .i64 m, .int .i64 wt, .int .i64 now0, .int .i64 dr] 67) (sep (cel b3 [.int .i64 x.id, .bool x.more, .int .i64 x.off, .int .i64 x.ttl, .int .i64 x.proto, .string (bytesL [x.s0, x.s1, x.s2, x.s3]), .string (bytesL [x.d0, x.d1, x.d2, x.d3]), .string x.data] 36) (F))))) (fun k => k ≤ fB B x) (fun k => B.length - k) (0) (Nat.zero_le _) ⟨rfl, rfl, rfl, trivial⟩ Ent.take (fun k hk => ?_)
  refine J_seq ?_
  refine J_seq ?_
  refine J_region ?_
  refine L_v (opv_move rfl) rfl ?_
  refine L_v (opv_move rfl) rfl ?_
  refine L_v (opv_nilCheck rfl) rfl ?_
  first
    | refine L_v (opv_fieldAddr0 rfl) rfl ?_
    | refine L_v (opv_fieldAddr rfl) rfl ?_
  refine L_v (opv_load rfl (Rd.look rfl)) rfl ?_
  first
    | refine L_v (opv_lenL rfl) rfl ?_
    | refine L_v (opv_lenS rfl) rfl ?_
  refine L_v (opv_lss rfl rfl) rfl ?_
  refine L_nil ?_
  refine K_then ?_
  refine J_cond rfl (fun h1 => ?_) (fun h1 => ?_)
  · obtain ⟨y, hy⟩ : ∃ y, B[k]? = some y := ⟨_, List.getElem?_eq_getElem (by omega)⟩
    obtain ⟨b, o, rfl⟩ : ∃ b o, A = some (ad b o) := by rcases hA with ⟨_, _, h, _⟩ | h; omega; exact h
    refine J_skip ?_
    refine K_then ?_
    refine J_seq ?_
    refine J_block ?_
    refine J_seq ?_
    refine J_quiet Try.mixed (by kernel_rfl) ?_
    refine Q_v (opv_move rfl) rfl ?_
    refine Q_v (opv_nilCheck rfl) rfl ?_
    first
      | refine Q_v (opv_fieldAddr0 rfl) rfl ?_
      | refine Q_v (opv_fieldAddr rfl) rfl ?_
    refine Q_v (opv_load rfl (Rd.look rfl)) rfl ?_
    refine Q_v (opv_move rfl) rfl ?_
    first
      | refine Q_v (opv_indexAddr rfl rfl (by omega)) rfl ?_
      | refine Q_v (opv_indexAddrA rfl rfl (by omega)) rfl ?_
    first
      | refine Q_v (opv_fieldAddr0 rfl) rfl ?_
      | refine Q_v (opv_fieldAddr rfl) rfl ?_
    refine Q_v (opv_loadN (vs := [.int .i64 y.p.id, .bool y.p.more, .int .i64 y.p.off, .int .i64 y.p.ttl, .int .i64 y.p.proto, .string (bytesL [y.p.s0, y.p.s1, y.p.s2, y.p.s3]), .string (bytesL [y.p.d0, y.p.d1, y.p.d2, y.p.d3]), .string y.p.data]) rfl rfl (fun j u hj => Rd.of_take (S := Own 73 10 (.slice (some (ad b o)) B.length c) B.length (B.flatMap encB)) (RdS.rdf (RdS.own (m := 10) (e := 73) (c := c) (xs := B) encB_len (.inr ⟨b, o, rfl⟩)) hy 0 (vs := [.int .i64 y.p.id, .bool y.p.more, .int .i64 y.p.off, .int .i64 y.p.ttl, .int .i64 y.p.proto, .string (bytesL [y.p.s0, y.p.s1, y.p.s2, y.p.s3]), .string (bytesL [y.p.d0, y.p.d1, y.p.d2, y.p.d3]), .string y.p.data]) (fun j u h => by match j, h with | 0, h => exact h | 1, h => exact h | 2, h => exact h | 3, h => exact h | 4, h => exact h | 5, h => exact h | 6, h => exact h | 7, h => exact h) j u hj))) rfl ?_
    refine Q_v (opv_loadS rfl) rfl ?_
    refine Q_call (RSame_spec y.p x (hB y (List.mem_of_getElem? hy)) hx) rfl rfl (fun _ _ => rfl) (fun _ _ => Ent.refl _) rfl ?_
    refine QL_nil ?_
    refine K_then ?_
    refine J_cond rfl (fun h2 => ?_) (fun h2 => ?_)
    · refine J_seq ?_
      refine J_region ?_
      refine L_v (opv_move rfl) rfl ?_
      refine L_v (opv_assign rfl) rfl ?_
      refine L_nil ?_
      refine K_then ?_
      refine J_ret ?_
      refine K_block_ret ?_
      refine K_then_ret ?_
      refine K_then_ret ?_
      refine K_block_ret ?_
      refine K_then_ret ?_
      have e := fB_here hk hy h2
      have hl : k < B.length := by omega
      exact K_ret1 rfl rfl () trivial (congrArg (Value.int .i64) (by rw [e, if_pos hl])) Ent.take
    · refine J_skip ?_
      refine K_block ?_
      refine K_then ?_
      refine J_region ?_
      refine L_v (opv_move rfl) rfl ?_
      first
        | refine L_v (opv_add64 rfl rfl (by omega)) rfl ?_
        | refine L_v (opv_addS rfl rfl (by omega)) rfl ?_
        | refine L_v (opv_add rfl rfl) rfl ?_
      refine L_v (opv_assign rfl) rfl ?_
      refine L_nil ?_
      exact K_loop (k + 1) (fB_next hk hy h2) (by omega) ⟨rfl, rfl, rfl, trivial⟩ Ent.take
  · refine J_exit ?_
    refine K_then_exit ?_
    refine K_then_exit ?_
    refine K_block_here ?_
    refine K_then ?_
    refine J_seq ?_
    refine J_region ?_
    refine L_v (opv_assign rfl) rfl ?_
    refine L_nil ?_
    refine K_then ?_
    refine J_ret ?_
    have hle := fB_le B x
    exact K_ret1 rfl rfl () trivial (congrArg (Value.int .i64) (by rw [if_neg (by omega)])) Ent.take

theorem Rdrop_spec (rp : Nat) (A : Option Addr) (c : Nat) (B : List Bgr) (m wt now0 dr : Int) (hn : B.length ≤ 1000000) (i : Nat) (hi : i < B.length) : FSpec Try.prog 56 #[.pointer (some (ad rp 0)), .int .i64 (i : Nat)] ((sep (Own 73 10 (.slice A B.length c) B.length (B.flatMap encB)) (cel rp [.slice A B.length c, .int .i64 m, .int .i64 wt, .int .i64 now0, .int .i64 dr] 67))) (fun r : Option Addr × Nat => True) (fun r => .tuple #[]) (fun r => (sep (Own 73 10 (.slice r.1 (B.take i ++ B.drop (i + 1)).length r.2) (B.take i ++ B.drop (i + 1)).length ((B.take i ++ B.drop (i + 1)).flatMap encB)) (cel rp [.slice r.1 (B.take i ++ B.drop (i + 1)).length r.2, .int .i64 m, .int .i64 wt, .int .i64 now0, .int .i64 dr] 67))) := by
  refine FSpec.enter' Try.func56 rfl Try.ntmps56 rfl fun σ F => ?_
  refine J_eq _ (sep_assoc _ _ _) ?_
  refine J_know (fun w hs => own_nonnil hs) fun hA => ?_
  refine J_know (fun w hs => own_cap hs) fun hcap => ?_
  obtain ⟨b, o, rfl⟩ : ∃ b o, A = some (ad b o) := by rcases hA with ⟨_, _, h, _⟩ | h; omega; exact h
  refine J_imp (sep (Own 73 10 (.slice none 0 0) 0 []) (_)) (Ent.trans (Ent.of (emp_sep _).symm) ((Own.nil 73 10).frame _)) ?_
  refine J_seq ?_
  refine J_region ?_
  refine L_v (opv_assign rfl) rfl ?_
  refine L_nil ?_
  refine K_then ?_
  refine J_seq ?_
  refine J_region ?_
  refine L_v (opv_move rfl) rfl ?_
  refine L_v (opv_move rfl) rfl ?_
  refine L_v (opv_nilCheck rfl) rfl ?_
  first
    | refine L_v (opv_fieldAddr0 rfl) rfl ?_
    | refine L_v (opv_fieldAddr rfl) rfl ?_
  refine L_v (opv_load rfl (Rd.look rfl)) rfl ?_
  refine L_v (opv_move rfl) rfl ?_
  refine L_v ((opv_sliceLhi rfl rfl (by omega)).as (v' := .slice (some (ad b o)) i c) (by rw [Int.toNat_natCast, cutV_at]; simp)) rfl ?_
  refine L_x rfl (opx_append (m := 10) (B := 112) rfl rfl (Src.pre (e := 73) (m := 10) (len := B.length) (c := c) (l := B.flatMap encB) (k := i) (c' := c) (news := (B.take i).flatMap encB) (fun j u hj => ft_get hj)) rfl (by omega) (by rw [flat_len encB_len, List.length_take]; omega) (fun u hu => by obtain ⟨x, _, hx⟩ := List.mem_flatMap.1 hu; exact encB_one x u hx) (by unfold maxLen; omega) (by omega) rfl) (fun y12 _ => ?_)
  refine L_v (opv_assign rfl) rfl ?_
  refine L_nil ?_
  refine K_then ?_
  refine J_region ?_
  refine L_v (opv_move rfl) rfl ?_
  refine L_v (opv_move rfl) rfl ?_
  refine L_v (opv_move rfl) rfl ?_
  refine L_v (opv_nilCheck rfl) rfl ?_
  first
    | refine L_v (opv_fieldAddr0 rfl) rfl ?_
    | refine L_v (opv_fieldAddr rfl) rfl ?_
  refine L_v (opv_load rfl (Rd.look rfl)) rfl ?_
  refine L_v (opv_move rfl) rfl ?_
  first
    | refine L_v (opv_add64 rfl rfl (by omega)) rfl ?_
    | refine L_v (opv_addS rfl rfl (by omega)) rfl ?_
    | refine L_v (opv_add rfl rfl) rfl ?_
  refine L_v ((opv_sliceLlo rfl rfl (by omega)).as (v' := cutV (some (ad b o)) (i + 1) B.length c 10) (by rw [show ((i : Int) + 1).toNat = i + 1 by omega])) rfl ?_
  refine L_x rfl (opx_append (m := 10) (B := 112) rfl rfl (Src.rest (e := 73) (k := i) (n := B.length - (i + 1)) (q := B) encB_len rfl hi hcap.1) rfl (by omega) (by rw [flat_len encB_len, List.length_drop]) (fun u hu => by obtain ⟨x, _, hx⟩ := List.mem_flatMap.1 hu; exact encB_one x u hx) (by unfold maxLen; omega) (by omega) rfl) (fun y22 _ => ?_)
  refine L_v (opv_nilCheck rfl) rfl ?_
  first
    | refine L_v (opv_fieldAddr0 rfl) rfl ?_
    | refine L_v (opv_fieldAddr rfl) rfl ?_
  refine L_x rfl (opx_store rfl rfl rfl (by simp [Value.oneCell'])) (fun _ _ => ?_)
  refine L_nil ?_
  have e1 : [] ++ (B.take i).flatMap encB ++ (B.drop (i + 1)).flatMap encB = (B.take i ++ B.drop (i + 1)).flatMap encB := by simp
  have e2 : 0 + i + (B.length - (i + 1)) = (B.take i ++ B.drop (i + 1)).length := by rw [List.length_append, List.length_take, List.length_drop]; omega
  rw [e1, e2]
  exact K_end0 rfl y22 trivial rfl (Ent.take (Q := (sep ((sep (Own 73 10 (.slice y22.1 (B.take i ++ B.drop (i + 1)).length y22.2) (B.take i ++ B.drop (i + 1)).length ((B.take i ++ B.drop (i + 1)).flatMap encB)) (cel rp [.slice y22.1 (B.take i ++ B.drop (i + 1)).length y22.2, .int .i64 m, .int .i64 wt, .int .i64 now0, .int .i64 dr] 67))) (F))))

theorem RPass_bad (rp : Nat) (A : Option Addr) (c : Nat) (B : List Bgr) (m wt now0 dr : Int) (hn : B.length ≤ 1000000) (now : Int) (h : timC now0 now ≠ 0) : FSpec Try.prog 31 #[.pointer (some (ad rp 0)), .int .i64 now] ((sep (Own 73 10 (.slice A B.length c) B.length (B.flatMap encB)) (cel rp [.slice A B.length c, .int .i64 m, .int .i64 wt, .int .i64 now0, .int .i64 dr] 67))) (fun _ : Unit => True) (fun _ => .int .i64 (timC now0 now)) (fun _ => (sep (Own 73 10 (.slice A B.length c) B.length (B.flatMap encB)) (cel rp [.slice A B.length c, .int .i64 m, .int .i64 wt, .int .i64 now0, .int .i64 dr] 67))) := by
  unfold timC at h ⊢
  refine FSpec.enter' Try.func31 rfl Try.ntmps31 rfl fun σ F => ?_
  refine J_eq _ (sep_assoc _ _ _) ?_
  refine J_know (fun w hs => own_nonnil hs) fun hA => ?_
  refine J_know (fun w hs => own_cap hs) fun hcap => ?_
  refine J_seq ?_
  refine J_region ?_
  refine L_v (opv_assign rfl) rfl ?_
  refine L_nil ?_
  refine K_then ?_
  refine J_seq ?_
  refine J_seq ?_
  refine J_region ?_
  refine L_v (opv_move rfl) rfl ?_
  refine L_v (opv_gtr rfl rfl) rfl ?_
  refine L_nil ?_
  refine K_then ?_
  refine J_cond rfl (fun h1 => ?_) (fun h1 => ?_)
  · refine J_seq ?_
    refine J_region ?_
    refine L_v (opv_assign rfl) rfl ?_
    refine L_nil ?_
    refine K_then ?_
    refine J_ret ?_
    refine K_then_ret ?_
    exact K_ret1 rfl rfl () trivial (congrArg (Value.int .i64) (by first | rw [if_pos (by omega)] | rw [if_neg (by omega), if_pos (by omega)])) Ent.take
  · refine J_skip ?_
    refine K_then ?_
    refine J_seq ?_
    refine J_seq ?_
    refine J_region ?_
    refine L_v (opv_move rfl) rfl ?_
    refine L_v (opv_move rfl) rfl ?_
    refine L_v (opv_nilCheck rfl) rfl ?_
    first
      | refine L_v (opv_fieldAddr0 rfl) rfl ?_
      | refine L_v (opv_fieldAddr rfl) rfl ?_
    refine L_v (opv_load rfl (Rd.look rfl)) rfl ?_
    refine L_v (opv_lss rfl rfl) rfl ?_
    refine L_nil ?_
    refine K_then ?_
    refine J_cond rfl (fun h2 => ?_) (fun h2 => absurd (by rw [if_neg h1, if_neg (by omega)]) h)
    refine J_seq ?_
    refine J_region ?_
    refine L_v (opv_assign rfl) rfl ?_
    refine L_nil ?_
    refine K_then ?_
    refine J_ret ?_
    refine K_then_ret ?_
    exact K_ret1 rfl rfl () trivial (congrArg (Value.int .i64) (by first | rw [if_pos (by omega)] | rw [if_neg (by omega), if_pos (by omega)])) Ent.take

set_option maxHeartbeats 600000 in
theorem RPass_ok (rp : Nat) (A : Option Addr) (c : Nat) (B : List Bgr) (m wt now0 dr : Int) (hn : B.length ≤ 1000000) (now : Int) (h : timC now0 now = 0) (h0 : 0 ≤ now0) (hwt : 0 ≤ wt ∧ wt ≤ 1125899906842624) (hb : ∀ b ∈ B, 0 ≤ b.t ∧ b.t ≤ 1125899906842624) (hdr : 0 ≤ dr ∧ dr ≤ 1000000) : FSpec Try.prog 31 #[.pointer (some (ad rp 0)), .int .i64 now] ((sep (Own 73 10 (.slice A B.length c) B.length (B.flatMap encB)) (cel rp [.slice A B.length c, .int .i64 m, .int .i64 wt, .int .i64 now0, .int .i64 dr] 67))) (fun r : Option Addr × Nat => True) (fun r => .int .i64 0) (fun r => (sep (Own 73 10 (.slice r.1 (B.filter (keepB wt now)).length r.2) (B.filter (keepB wt now)).length ((B.filter (keepB wt now)).flatMap encB)) (cel rp [.slice r.1 (B.filter (keepB wt now)).length r.2, .int .i64 m, .int .i64 wt, .int .i64 now, .int .i64 (dr + B.length - (B.filter (keepB wt now)).length)] 67))) := by
  have hnow : now0 ≤ now ∧ now ≤ 1125899906842624 := by unfold timC at h; split at h; cases h; split at h; cases h; omega
  have hfle : (B.filter (keepB wt now)).length ≤ B.length := List.length_filter_le _ _
  refine FSpec.enter' Try.func31 rfl Try.ntmps31 rfl fun σ F => ?_
  refine J_eq _ (sep_assoc _ _ _) ?_
  refine J_know (fun w hs => own_nonnil hs) fun hA => ?_
  refine J_know (fun w hs => own_cap hs) fun hcap => ?_
  refine J_seq ?_
  refine J_region ?_
  refine L_v (opv_assign rfl) rfl ?_
  refine L_nil ?_
  refine K_then ?_
  refine J_seq ?_
  refine J_seq ?_
  refine J_region ?_
  refine L_v (opv_move rfl) rfl ?_
  refine L_v ((opv_gtr rfl rfl).bool_f (by omega)) rfl ?_
  refine L_nil ?_
  refine K_then ?_
  refine J_cond_false rfl ?_
  refine J_skip ?_
  refine K_then ?_
  refine J_seq ?_
  refine J_seq ?_
  refine J_region ?_
  refine L_v (opv_move rfl) rfl ?_
  refine L_v (opv_move rfl) rfl ?_
  refine L_v (opv_nilCheck rfl) rfl ?_
  first
    | refine L_v (opv_fieldAddr0 rfl) rfl ?_
    | refine L_v (opv_fieldAddr rfl) rfl ?_
  refine L_v (opv_load rfl (Rd.look rfl)) rfl ?_
  refine L_v ((opv_lss rfl rfl).bool_f (by omega)) rfl ?_
  refine L_nil ?_
  refine K_then ?_
  refine J_cond_false rfl ?_
  refine J_skip ?_
  refine K_then ?_
  refine J_seq ?_
  refine J_region ?_
  refine L_v (opv_move rfl) rfl ?_
  refine L_v (opv_move rfl) rfl ?_
  refine L_v (opv_nilCheck rfl) rfl ?_
  first
    | refine L_v (opv_fieldAddr0 rfl) rfl ?_
    | refine L_v (opv_fieldAddr rfl) rfl ?_
  refine L_x rfl (opx_store rfl rfl rfl (by simp [Value.oneCell'])) (fun _ _ => ?_)
  refine L_nil ?_
  refine K_then ?_
  refine J_seq ?_
  refine J_imp (sep (Own 73 10 (.slice none 0 0) 0 []) (sep (Own 73 10 (.slice A B.length c) B.length (B.flatMap encB)) (sep (cel rp [.slice A B.length c, .int .i64 m, .int .i64 wt, .int .i64 now, .int .i64 dr] 67) (F)))) (Ent.trans (Ent.trans (Ent.take (Q := (sep (Own 73 10 (.slice A B.length c) B.length (B.flatMap encB)) (sep (cel rp [.slice A B.length c, .int .i64 m, .int .i64 wt, .int .i64 now, .int .i64 dr] 67) (F))))) (Ent.of (emp_sep _).symm)) ((Own.nil 73 10).frame _)) ?_
  refine J_region ?_
  refine L_v (opv_assign rfl) rfl ?_
  refine L_nil ?_
  refine K_then ?_
  refine J_seq ?_
  refine J_seq ?_
  refine J_region ?_
  refine L_v (opv_assign rfl) rfl ?_
  refine L_nil ?_
  refine K_then ?_
  refine J_block ?_
  refine J_loop (X := Nat × (Option Addr × Nat)) (fun z => [(0, .pointer (some (ad rp 0))), (1, .int .i64 now), (5, .slice z.2.1 ((B.take z.1).filter (keepB wt now)).length z.2.2), (6, .int .i64 z.1)]) (fun z => (sep (Own 73 10 (.slice z.2.1 ((B.take z.1).filter (keepB wt now)).length z.2.2) ((B.take z.1).filter (keepB wt now)).length (((B.take z.1).filter (keepB wt now)).flatMap encB)) (sep (Own 73 10 (.slice A B.length c) B.length (B.flatMap encB)) (sep (cel rp [.slice A B.length c, .int .i64 m, .int .i64 wt, .int .i64 now, .int .i64 dr] 67) (F))))) (fun z => z.1 ≤ B.length) (fun z => B.length - z.1) ((0, (none, 0))) (Nat.zero_le _) ⟨rfl, rfl, rfl, rfl, trivial⟩ (Ent.take (Q := (sep (Own 73 10 (.slice none 0 0) 0 []) (sep (Own 73 10 (.slice A B.length c) B.length (B.flatMap encB)) (sep (cel rp [.slice A B.length c, .int .i64 m, .int .i64 wt, .int .i64 now, .int .i64 dr] 67) (F)))))) (fun z hz => ?_)
  have hlt : ((B.take z.1).filter (keepB wt now)).length ≤ z.1 := by have := List.length_filter_le (keepB wt now) (B.take z.1); rw [List.length_take] at this; omega
  refine J_seq ?_
  refine J_seq ?_
  refine J_region ?_
  refine L_v (opv_move rfl) rfl ?_
  refine L_v (opv_move rfl) rfl ?_
  refine L_v (opv_nilCheck rfl) rfl ?_
  first
    | refine L_v (opv_fieldAddr0 rfl) rfl ?_
    | refine L_v (opv_fieldAddr rfl) rfl ?_
  refine L_v (opv_load rfl (Rd.look rfl)) rfl ?_
  first
    | refine L_v (opv_lenL rfl) rfl ?_
    | refine L_v (opv_lenS rfl) rfl ?_
  refine L_v (opv_lss rfl rfl) rfl ?_
  refine L_nil ?_
  refine K_then ?_
  refine J_cond rfl (fun h1 => ?_) (fun h1 => ?_)
  · obtain ⟨y, hy⟩ : ∃ y, B[z.1]? = some y := ⟨_, List.getElem?_eq_getElem (by omega)⟩
    obtain ⟨b, o, rfl⟩ : ∃ b o, A = some (ad b o) := by rcases hA with ⟨_, _, h, _⟩ | h; omega; exact h
    have hyt := hb y (List.mem_of_getElem? hy)
    refine J_skip ?_
    refine K_then ?_
    refine J_seq ?_
    refine J_block ?_
    refine J_seq ?_
    refine J_quiet Try.mixed (by kernel_rfl) ?_
    refine Q_v (opv_move rfl) rfl ?_
    refine Q_v (opv_move rfl) rfl ?_
    refine Q_v (opv_nilCheck rfl) rfl ?_
    first
      | refine Q_v (opv_fieldAddr0 rfl) rfl ?_
      | refine Q_v (opv_fieldAddr rfl) rfl ?_
    refine Q_v (opv_load rfl (Rd.look rfl)) rfl ?_
    refine Q_v (opv_move rfl) rfl ?_
    first
      | refine Q_v (opv_indexAddr rfl rfl (by omega)) rfl ?_
      | refine Q_v (opv_indexAddrA rfl rfl (by omega)) rfl ?_
    first
      | refine Q_v (opv_fieldAddr0 rfl) rfl ?_
      | refine Q_v (opv_fieldAddr rfl) rfl ?_
    refine Q_v (opv_load rfl (Rd.of_take (S := Own 73 10 (.slice (some (ad b o)) B.length c) B.length (B.flatMap encB)) ((RdS.own (m := 10) (e := 73) (c := c) (xs := B) encB_len (.inr ⟨b, o, rfl⟩)).rd b o rfl z.1 y 8 _ hy rfl))) rfl ?_
    refine Q_v ((opv_sub64 rfl rfl (by omega))) rfl ?_
    refine Q_v (opv_move rfl) rfl ?_
    refine Q_v (opv_nilCheck rfl) rfl ?_
    first
      | refine Q_v (opv_fieldAddr0 rfl) rfl ?_
      | refine Q_v (opv_fieldAddr rfl) rfl ?_
    refine Q_v (opv_load rfl (Rd.look rfl)) rfl ?_
    refine Q_v (opv_leq rfl rfl) rfl ?_
    refine QL_nil ?_
    refine K_then ?_
    refine J_cond rfl (fun h2 => ?_) (fun h2 => ?_)
    · refine J_region ?_
      refine L_v (opv_move rfl) rfl ?_
      refine L_v (opv_move rfl) rfl ?_
      refine L_v (opv_nilCheck rfl) rfl ?_
      first
        | refine L_v (opv_fieldAddr0 rfl) rfl ?_
        | refine L_v (opv_fieldAddr rfl) rfl ?_
      refine L_v (opv_load rfl (Rd.look rfl)) rfl ?_
      refine L_v (opv_move rfl) rfl ?_
      first
        | refine L_v (opv_indexAddr rfl rfl (by omega)) rfl ?_
        | refine L_v (opv_indexAddrA rfl rfl (by omega)) rfl ?_
      refine L_v (opv_loadN (vs := [.int .i64 y.p.id, .bool y.p.more, .int .i64 y.p.off, .int .i64 y.p.ttl, .int .i64 y.p.proto, .string (bytesL [y.p.s0, y.p.s1, y.p.s2, y.p.s3]), .string (bytesL [y.p.d0, y.p.d1, y.p.d2, y.p.d3]), .string y.p.data, .int .i64 y.t, .string y.data]) rfl rfl (fun j u hj => Rd.of_take (S := Own 73 10 (.slice (some (ad b o)) B.length c) B.length (B.flatMap encB)) ((RdS.own (m := 10) (e := 73) (c := c) (xs := B) encB_len (.inr ⟨b, o, rfl⟩)).rd b o rfl z.1 y j u hy hj))) rfl ?_
      refine L_x rfl (opx_buildSlice1 (m := 10) rfl rfl (by omega) (by omega) rfl) (fun b51 _ => ?_)
      refine L_x rfl (opx_append (m := 10) (B := 112) rfl rfl (Src.lit) rfl (by omega) rfl (encB_one y) (by unfold maxLen; omega) (by omega) rfl) (fun y52 _ => ?_)
      refine L_v (opv_assign rfl) rfl ?_
      refine L_nil ?_
      refine K_block ?_
      refine K_then ?_
      refine J_region ?_
      refine L_v (opv_move rfl) rfl ?_
      first
        | refine L_v (opv_add64 rfl rfl (by omega)) rfl ?_
        | refine L_v (opv_addS rfl rfl (by omega)) rfl ?_
        | refine L_v (opv_add rfl rfl) rfl ?_
      refine L_v (opv_assign rfl) rfl ?_
      refine L_nil ?_
      have htk : B.take (z.1 + 1) = B.take z.1 ++ [y] := by
        have hkl := klt hy
        have e := hy
        rw [List.getElem?_eq_getElem hkl] at e
        simp only [Option.some.injEq] at e
        rw [List.take_succ_eq_append_getElem hkl, e]
      have hfl : (B.take (z.1 + 1)).filter (keepB wt now) = ((B.take z.1).filter (keepB wt now)) ++ [y] := by rw [htk, List.filter_append, List.filter_cons, if_pos (show keepB wt now y = true from decide_eq_true h2)]; simp
      rw [show ((B.take z.1).filter (keepB wt now)).length + 1 = ((B.take (z.1 + 1)).filter (keepB wt now)).length by rw [hfl]; simp, show ((B.take z.1).filter (keepB wt now)).flatMap encB ++ encB y = ((B.take (z.1 + 1)).filter (keepB wt now)).flatMap encB by rw [hfl, List.flatMap_append]; simp]
      exact K_loop ((z.1 + 1, y52)) (by dsimp only; omega) (by dsimp only; omega) ⟨rfl, rfl, rfl, rfl, trivial⟩ Ent.take
    · refine J_skip ?_
      refine K_block ?_
      refine K_then ?_
      refine J_region ?_
      refine L_v (opv_move rfl) rfl ?_
      first
        | refine L_v (opv_add64 rfl rfl (by omega)) rfl ?_
        | refine L_v (opv_addS rfl rfl (by omega)) rfl ?_
        | refine L_v (opv_add rfl rfl) rfl ?_
      refine L_v (opv_assign rfl) rfl ?_
      refine L_nil ?_
      have htk : B.take (z.1 + 1) = B.take z.1 ++ [y] := by
        have hkl := klt hy
        have e := hy
        rw [List.getElem?_eq_getElem hkl] at e
        simp only [Option.some.injEq] at e
        rw [List.take_succ_eq_append_getElem hkl, e]
      have hfl : (B.take (z.1 + 1)).filter (keepB wt now) = ((B.take z.1).filter (keepB wt now)) := by rw [htk, List.filter_append, List.filter_cons, if_neg (by unfold keepB; simpa using h2)]; simp
      rw [← hfl]
      exact K_loop ((z.1 + 1, z.2)) (by dsimp only; omega) (by dsimp only; omega) ⟨rfl, rfl, rfl, rfl, trivial⟩ Ent.take
  · have hzl : z.1 = B.length := by omega
    have hall : ((B.take z.1).filter (keepB wt now)) = (B.filter (keepB wt now)) := by rw [hzl, List.take_length]
    refine J_exit ?_
    refine K_then_exit ?_
    refine K_then_exit ?_
    refine K_block_here ?_
    refine K_then ?_
    refine J_seq ?_
    refine J_steps (Own 73 10 (.slice z.2.1 ((B.take z.1).filter (keepB wt now)).length z.2.2) ((B.take z.1).filter (keepB wt now)).length (((B.take z.1).filter (keepB wt now)).flatMap encB)) ((sep (Own 73 10 (.slice z.2.1 ((B.take z.1).filter (keepB wt now)).length z.2.2) ((B.take z.1).filter (keepB wt now)).length (((B.take z.1).filter (keepB wt now)).flatMap encB)) (cel rp [.slice A B.length c, .int .i64 m, .int .i64 wt, .int .i64 now, .int .i64 dr] 67))) [16] Try.mixed ?_
    refine R_pure 0 rfl (by kernel_rfl) (by kernel_rfl) (by kernel_rfl) (by kernel_rfl) (.inr ⟨_, Take.eq (A := (sep (Own 73 10 (.slice z.2.1 ((B.take z.1).filter (keepB wt now)).length z.2.2) ((B.take z.1).filter (keepB wt now)).length (((B.take z.1).filter (keepB wt now)).flatMap encB)) (cel rp [.slice A B.length c, .int .i64 m, .int .i64 wt, .int .i64 now, .int .i64 dr] 67)))⟩) (opv_move rfl) rfl ?_
    refine R_pure 1 rfl (by kernel_rfl) (by kernel_rfl) (by kernel_rfl) (by kernel_rfl) (.inr ⟨_, Take.eq (A := (sep (Own 73 10 (.slice z.2.1 ((B.take z.1).filter (keepB wt now)).length z.2.2) ((B.take z.1).filter (keepB wt now)).length (((B.take z.1).filter (keepB wt now)).flatMap encB)) (cel rp [.slice A B.length c, .int .i64 m, .int .i64 wt, .int .i64 now, .int .i64 dr] 67)))⟩) (opv_move rfl) rfl ?_
    refine R_pure 2 rfl (by kernel_rfl) (by kernel_rfl) (by kernel_rfl) (by kernel_rfl) (.inr ⟨_, Take.eq (A := (sep (Own 73 10 (.slice z.2.1 ((B.take z.1).filter (keepB wt now)).length z.2.2) ((B.take z.1).filter (keepB wt now)).length (((B.take z.1).filter (keepB wt now)).flatMap encB)) (cel rp [.slice A B.length c, .int .i64 m, .int .i64 wt, .int .i64 now, .int .i64 dr] 67)))⟩) (opv_nilCheck rfl) rfl ?_
    first
      | refine R_pure 3 rfl (by kernel_rfl) (by kernel_rfl) (by kernel_rfl) (by kernel_rfl) (.inr ⟨_, Take.eq (A := (sep (Own 73 10 (.slice z.2.1 ((B.take z.1).filter (keepB wt now)).length z.2.2) ((B.take z.1).filter (keepB wt now)).length (((B.take z.1).filter (keepB wt now)).flatMap encB)) (cel rp [.slice A B.length c, .int .i64 m, .int .i64 wt, .int .i64 now, .int .i64 dr] 67)))⟩) (opv_fieldAddr0 rfl) rfl ?_
      | refine R_pure 3 rfl (by kernel_rfl) (by kernel_rfl) (by kernel_rfl) (by kernel_rfl) (.inr ⟨_, Take.eq (A := (sep (Own 73 10 (.slice z.2.1 ((B.take z.1).filter (keepB wt now)).length z.2.2) ((B.take z.1).filter (keepB wt now)).length (((B.take z.1).filter (keepB wt now)).flatMap encB)) (cel rp [.slice A B.length c, .int .i64 m, .int .i64 wt, .int .i64 now, .int .i64 dr] 67)))⟩) (opv_fieldAddr rfl) rfl ?_
    refine R_take 4 rfl (by kernel_rfl) (by kernel_rfl) (by kernel_rfl) (by kernel_rfl) (by kernel_rfl) (opv_load rfl (Rd.look rfl)) rfl ?_
    refine R_pure 5 rfl (by kernel_rfl) (by kernel_rfl) (by kernel_rfl) (by kernel_rfl) (.inr ⟨_, Take.eq (A := (sep (Own 73 10 (.slice z.2.1 ((B.take z.1).filter (keepB wt now)).length z.2.2) ((B.take z.1).filter (keepB wt now)).length (((B.take z.1).filter (keepB wt now)).flatMap encB)) (cel rp [.slice A B.length c, .int .i64 m, .int .i64 wt, .int .i64 now, .int .i64 dr] 67)))⟩) (opv_move rfl) rfl ?_
    refine R_pure 6 rfl (by kernel_rfl) (by kernel_rfl) (by kernel_rfl) (by kernel_rfl) (.inr ⟨_, Take.eq (A := (sep (Own 73 10 (.slice z.2.1 ((B.take z.1).filter (keepB wt now)).length z.2.2) ((B.take z.1).filter (keepB wt now)).length (((B.take z.1).filter (keepB wt now)).flatMap encB)) (cel rp [.slice A B.length c, .int .i64 m, .int .i64 wt, .int .i64 now, .int .i64 dr] 67)))⟩) (opv_nilCheck rfl) rfl ?_
    first
      | refine R_pure 7 rfl (by kernel_rfl) (by kernel_rfl) (by kernel_rfl) (by kernel_rfl) (.inr ⟨_, Take.eq (A := (sep (Own 73 10 (.slice z.2.1 ((B.take z.1).filter (keepB wt now)).length z.2.2) ((B.take z.1).filter (keepB wt now)).length (((B.take z.1).filter (keepB wt now)).flatMap encB)) (cel rp [.slice A B.length c, .int .i64 m, .int .i64 wt, .int .i64 now, .int .i64 dr] 67)))⟩) (opv_fieldAddr0 rfl) rfl ?_
      | refine R_pure 7 rfl (by kernel_rfl) (by kernel_rfl) (by kernel_rfl) (by kernel_rfl) (.inr ⟨_, Take.eq (A := (sep (Own 73 10 (.slice z.2.1 ((B.take z.1).filter (keepB wt now)).length z.2.2) ((B.take z.1).filter (keepB wt now)).length (((B.take z.1).filter (keepB wt now)).flatMap encB)) (cel rp [.slice A B.length c, .int .i64 m, .int .i64 wt, .int .i64 now, .int .i64 dr] 67)))⟩) (opv_fieldAddr rfl) rfl ?_
    refine R_take 8 rfl (by kernel_rfl) (by kernel_rfl) (by kernel_rfl) (by kernel_rfl) (by kernel_rfl) (opv_load rfl (Rd.look rfl)) rfl ?_
    first
      | refine R_pure 9 rfl (by kernel_rfl) (by kernel_rfl) (by kernel_rfl) (by kernel_rfl) (.inr ⟨_, Take.eq (A := (sep (Own 73 10 (.slice z.2.1 ((B.take z.1).filter (keepB wt now)).length z.2.2) ((B.take z.1).filter (keepB wt now)).length (((B.take z.1).filter (keepB wt now)).flatMap encB)) (cel rp [.slice A B.length c, .int .i64 m, .int .i64 wt, .int .i64 now, .int .i64 dr] 67)))⟩) (opv_lenL rfl) rfl ?_
      | refine R_pure 9 rfl (by kernel_rfl) (by kernel_rfl) (by kernel_rfl) (by kernel_rfl) (.inr ⟨_, Take.eq (A := (sep (Own 73 10 (.slice z.2.1 ((B.take z.1).filter (keepB wt now)).length z.2.2) ((B.take z.1).filter (keepB wt now)).length (((B.take z.1).filter (keepB wt now)).flatMap encB)) (cel rp [.slice A B.length c, .int .i64 m, .int .i64 wt, .int .i64 now, .int .i64 dr] 67)))⟩) (opv_lenS rfl) rfl ?_
    refine R_pure 10 rfl (by kernel_rfl) (by kernel_rfl) (by kernel_rfl) (by kernel_rfl) (.inr ⟨_, Take.eq (A := (sep (Own 73 10 (.slice z.2.1 ((B.take z.1).filter (keepB wt now)).length z.2.2) ((B.take z.1).filter (keepB wt now)).length (((B.take z.1).filter (keepB wt now)).flatMap encB)) (cel rp [.slice A B.length c, .int .i64 m, .int .i64 wt, .int .i64 now, .int .i64 dr] 67)))⟩) ((opv_add64 rfl rfl (by omega))) rfl ?_
    refine R_pure 11 rfl (by kernel_rfl) (by kernel_rfl) (by kernel_rfl) (by kernel_rfl) (.inr ⟨_, Take.eq (A := (sep (Own 73 10 (.slice z.2.1 ((B.take z.1).filter (keepB wt now)).length z.2.2) ((B.take z.1).filter (keepB wt now)).length (((B.take z.1).filter (keepB wt now)).flatMap encB)) (cel rp [.slice A B.length c, .int .i64 m, .int .i64 wt, .int .i64 now, .int .i64 dr] 67)))⟩) (opv_move rfl) rfl ?_
    first
      | refine R_pure 12 rfl (by kernel_rfl) (by kernel_rfl) (by kernel_rfl) (by kernel_rfl) (.inr ⟨_, Take.eq (A := (sep (Own 73 10 (.slice z.2.1 ((B.take z.1).filter (keepB wt now)).length z.2.2) ((B.take z.1).filter (keepB wt now)).length (((B.take z.1).filter (keepB wt now)).flatMap encB)) (cel rp [.slice A B.length c, .int .i64 m, .int .i64 wt, .int .i64 now, .int .i64 dr] 67)))⟩) (opv_lenL rfl) rfl ?_
      | refine R_pure 12 rfl (by kernel_rfl) (by kernel_rfl) (by kernel_rfl) (by kernel_rfl) (.inr ⟨_, Take.eq (A := (sep (Own 73 10 (.slice z.2.1 ((B.take z.1).filter (keepB wt now)).length z.2.2) ((B.take z.1).filter (keepB wt now)).length (((B.take z.1).filter (keepB wt now)).flatMap encB)) (cel rp [.slice A B.length c, .int .i64 m, .int .i64 wt, .int .i64 now, .int .i64 dr] 67)))⟩) (opv_lenS rfl) rfl ?_
    refine R_pure 13 rfl (by kernel_rfl) (by kernel_rfl) (by kernel_rfl) (by kernel_rfl) (.inr ⟨_, Take.eq (A := (sep (Own 73 10 (.slice z.2.1 ((B.take z.1).filter (keepB wt now)).length z.2.2) ((B.take z.1).filter (keepB wt now)).length (((B.take z.1).filter (keepB wt now)).flatMap encB)) (cel rp [.slice A B.length c, .int .i64 m, .int .i64 wt, .int .i64 now, .int .i64 dr] 67)))⟩) ((opv_sub64 rfl rfl (by omega))) rfl ?_
    refine R_pure 14 rfl (by kernel_rfl) (by kernel_rfl) (by kernel_rfl) (by kernel_rfl) (.inr ⟨_, Take.eq (A := (sep (Own 73 10 (.slice z.2.1 ((B.take z.1).filter (keepB wt now)).length z.2.2) ((B.take z.1).filter (keepB wt now)).length (((B.take z.1).filter (keepB wt now)).flatMap encB)) (cel rp [.slice A B.length c, .int .i64 m, .int .i64 wt, .int .i64 now, .int .i64 dr] 67)))⟩) (opv_nilCheck rfl) rfl ?_
    first
      | refine R_pure 15 rfl (by kernel_rfl) (by kernel_rfl) (by kernel_rfl) (by kernel_rfl) (.inr ⟨_, Take.eq (A := (sep (Own 73 10 (.slice z.2.1 ((B.take z.1).filter (keepB wt now)).length z.2.2) ((B.take z.1).filter (keepB wt now)).length (((B.take z.1).filter (keepB wt now)).flatMap encB)) (cel rp [.slice A B.length c, .int .i64 m, .int .i64 wt, .int .i64 now, .int .i64 dr] 67)))⟩) (opv_fieldAddr0 rfl) rfl ?_
      | refine R_pure 15 rfl (by kernel_rfl) (by kernel_rfl) (by kernel_rfl) (by kernel_rfl) (.inr ⟨_, Take.eq (A := (sep (Own 73 10 (.slice z.2.1 ((B.take z.1).filter (keepB wt now)).length z.2.2) ((B.take z.1).filter (keepB wt now)).length (((B.take z.1).filter (keepB wt now)).flatMap encB)) (cel rp [.slice A B.length c, .int .i64 m, .int .i64 wt, .int .i64 now, .int .i64 dr] 67)))⟩) (opv_fieldAddr rfl) rfl ?_
    refine R_only 16 rfl rfl (by kernel_rfl) (opx_store rfl rfl rfl (by simp [Value.oneCell'])) (fun _ _ => ⟨_, Take.eq (A := Own 73 10 (.slice z.2.1 ((B.take z.1).filter (keepB wt now)).length z.2.2) ((B.take z.1).filter (keepB wt now)).length (((B.take z.1).filter (keepB wt now)).flatMap encB))⟩) (.inl (by kernel_rfl)) (fun _ _ => ?_)
    refine R_done (by kernel_rfl) ?_
    refine K_then ?_
    refine J_seq ?_
    refine J_region ?_
    refine L_v (opv_move rfl) rfl ?_
    refine L_v (opv_move rfl) rfl ?_
    refine L_v (opv_nilCheck rfl) rfl ?_
    first
      | refine L_v (opv_fieldAddr0 rfl) rfl ?_
      | refine L_v (opv_fieldAddr rfl) rfl ?_
    refine L_x rfl (opx_store rfl rfl rfl (by simp [Value.oneCell'])) (fun _ _ => ?_)
    refine L_nil ?_
    refine K_then ?_
    refine J_seq ?_
    refine J_region ?_
    refine L_v (opv_assign rfl) rfl ?_
    refine L_nil ?_
    refine K_then ?_
    refine J_ret ?_
    rw [hall]
    exact K_ret1 rfl rfl z.2 trivial rfl (Ent.take (Q := (sep ((sep (Own 73 10 (.slice z.2.1 (B.filter (keepB wt now)).length z.2.2) (B.filter (keepB wt now)).length ((B.filter (keepB wt now)).flatMap encB)) (cel rp [.slice z.2.1 (B.filter (keepB wt now)).length z.2.2, .int .i64 m, .int .i64 wt, .int .i64 now, .int .i64 (dr + B.length - (B.filter (keepB wt now)).length)] 67))) (F))))

end Go.Proofs.Ytjpbpfihacfndaa
