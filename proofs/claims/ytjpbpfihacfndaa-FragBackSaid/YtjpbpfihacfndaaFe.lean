/- The law FragSmall of the package pitotlaw08 holds for every input: a packet that one frame carries is its only part, as it is, and one byte more makes two. No condition. -/
import Derived.Test.YtjpbpfihacfndaaFd
import Derived.Test.YtjpbpfihacfndaaH
namespace Go.Proofs.Ytjpbpfihacfndaa
open Go.SLA
set_option maxRecDepth 100000
set_option linter.unusedVariables false
set_option linter.unusedSimpArgs false
attribute [local irreducible] J L K QL Rg FSpec OpV OpX Rd Back

def smallB (p : Pk) (m : Int) : Prop := sizeB m ∧ (p.data.size : Int) ≤ m - 39 ∧ p.more = false ∧ p.off = 0
def Pk.with (p : Pk) (t : ByteArray) : Pk := ⟨p.id, p.more, p.off, p.ttl, p.proto, p.s0, p.s1, p.s2, p.s3, p.d0, p.d1, p.d2, p.d3, t⟩
theorem small_code {p : Pk} {m : Nat} (hm : 64 ≤ m ∧ m ≤ 1518) (h : p.more = false) (ho : p.off = 0) (hd : p.data.size ≤ 65515) : codeS p m = 0 := by
  have hs : sizeB (m : Int) := by unfold sizeB; omega
  unfold codeS
  rw [if_neg (fun n => n hs), if_neg (by rw [h, ho]; simp), if_neg (by omega)]
theorem small_one {p : Pk} {m : Nat} (hm : 64 ≤ m ∧ m ≤ 1518) (h : p.more = false) (ho : p.off = 0) (hd : p.data.size ≤ m - 39) : partsC p m = [p] := by
  have hc := small_code hm h ho (by omega)
  have e : splitL p (m - 39) (roomN m) 0 = [p] := by
    rw [splitL_b (by omega)]
    obtain ⟨id, more, off, ttl, proto, s0, s1, s2, s3, d0, d1, d2, d3, data⟩ := p
    dsimp only at h ho
    subst h ho
    unfold prt
    dsimp only
    rw [decide_eq_false (by omega), ByteArray.extract_zero_size]
    rfl
  unfold partsC
  rw [if_pos hc]
  exact e
theorem small_two {p : Pk} {m : Nat} (hm : 64 ≤ m ∧ m ≤ 1518) (h : p.more = false) (ho : p.off = 0) (hd : p.data.size = m - 38) : (partsC p m).length = 2 := by
  have hc := small_code hm h ho (by omega)
  have hr := roomN_ge hm.1
  have e : splitL p (m - 39) (roomN m) 0 = [prt p 0 (0 + roomN m), prt p (0 + roomN m) p.data.size] := by
    rw [splitL_a (by omega) (by omega), splitL_b (by omega)]
  unfold partsC
  rw [if_pos hc]
  show (splitL p (m - 39) (roomN m) 0).length = 2
  rw [e]
  rfl
theorem Split_one (p : Pk) (m : Nat) (hm : 64 ≤ m ∧ m ≤ 1518) (h : p.more = false) (ho : p.off = 0) (hd : p.data.size ≤ m - 39) : FSpec Try.prog 24 #[.agg [.int .i64 p.id, .bool p.more, .int .i64 p.off, .int .i64 p.ttl, .int .i64 p.proto, .int .u8 p.s0, .int .u8 p.s1, .int .u8 p.s2, .int .u8 p.s3, .int .u8 p.d0, .int .u8 p.d1, .int .u8 p.d2, .int .u8 p.d3, .string p.data].toArray, .int .i64 (m : Nat)] emp (fun _ : Option Addr × Nat => True) (fun r => .tuple #[.slice r.1 1 r.2, .int .i64 0]) (fun r => Own 32 14 (.slice r.1 [p].length r.2) [p].length ([p].flatMap encPk)) := by
  have := Split_all p m
  rw [small_one hm h ho hd, small_code hm h ho (by omega)] at this
  exact this
theorem Split_two (p : Pk) (m : Nat) (t : ByteArray) (hm : 64 ≤ m ∧ m ≤ 1518) (h : p.more = false) (ho : p.off = 0) (hd : t.size = m - 38) : FSpec Try.prog 24 #[.agg [.int .i64 p.id, .bool p.more, .int .i64 p.off, .int .i64 p.ttl, .int .i64 p.proto, .int .u8 p.s0, .int .u8 p.s1, .int .u8 p.s2, .int .u8 p.s3, .int .u8 p.d0, .int .u8 p.d1, .int .u8 p.d2, .int .u8 p.d3, .string t].toArray, .int .i64 (m : Nat)] emp (fun _ : Option Addr × Nat => True) (fun r => .tuple #[.slice r.1 2 r.2, .int .i64 0]) (fun r => emp) := by
  have := Split_all (p.with t) m
  rw [small_two (p := p.with t) hm h ho hd, small_code (p := p.with t) hm h ho (by show t.size ≤ 65515; omega)] at this
  refine this.conseq (Ent.refl _) fun r _ => ⟨r, trivial, rfl, ?_⟩
  exact Ent.trans (Ent.of (sep_emp _).symm) Ent.drop

theorem FM_no (W : World) (p : Pk) (m : Int) (hm : -9223372036854775808 ≤ m) (h : ¬ smallB p m) : FSpec Try.prog 7 #[.agg [.int .i64 p.id, .bool p.more, .int .i64 p.off, .int .i64 p.ttl, .int .i64 p.proto, .int .u8 p.s0, .int .u8 p.s1, .int .u8 p.s2, .int .u8 p.s3, .int .u8 p.d0, .int .u8 p.d1, .int .u8 p.d2, .int .u8 p.d3, .string p.data].toArray, .int .i64 m] (old W) (fun _ : Unit => True) (fun _ => .bool true) (fun _ => old W) := by
  unfold smallB sizeB at h
  refine FSpec.enter' Try.func7 rfl Try.ntmps7 rfl fun σ F => ?_
  refine J_seq ?_
  refine J_region ?_
  refine L_x rfl (opx_box (l := [.int .i64 p.id, .bool p.more, .int .i64 p.off, .int .i64 p.ttl, .int .i64 p.proto, .int .u8 p.s0, .int .u8 p.s1, .int .u8 p.s2, .int .u8 p.s3, .int .u8 p.d0, .int .u8 p.d1, .int .u8 p.d2, .int .u8 p.d3, .string p.data]) rfl rfl) (fun b2 _ => ?_)
  refine L_v (opv_assign rfl) rfl ?_
  refine L_nil ?_
  refine K_then ?_
  refine J_seq ?_
  refine J_seq ?_
  refine J_region ?_
  refine L_v (opv_move rfl) rfl ?_
  refine L_v (opv_lss rfl rfl) rfl ?_
  refine L_v (opv_move rfl) rfl ?_
  refine L_gf rfl rfl (fun h1 => ?_) (fun h1 => ?_) (fun _ h => by cases h; rfl)
  · refine L_v (opv_move rfl) rfl ?_
    refine L_gf_on h1 rfl rfl ?_
    refine L_v (opv_gtr rfl rfl) rfl ?_
    refine L_v (opv_pick_f rfl h1 rfl) rfl ?_
    refine L_v (opv_move rfl) rfl ?_
    refine L_gf rfl rfl (fun h2 => ?_) (fun h2 => ?_) (fun _ h => by cases h; rfl)
    · first
        | refine L_v (opv_fieldAddr0 rfl) rfl ?_
        | refine L_v (opv_fieldAddr rfl) rfl ?_
      refine L_gf_on h2 rfl rfl ?_
      refine L_v (opv_load rfl (Rd.look rfl)) rfl ?_
      refine L_gf_on h2 rfl rfl ?_
      first
        | refine L_v (opv_lenL rfl) rfl ?_
        | refine L_v (opv_lenS rfl) rfl ?_
      refine L_gf_on h2 rfl rfl ?_
      refine L_v (opv_move rfl) rfl ?_
      refine L_gf_on h2 rfl rfl ?_
      first
        | refine L_v (opv_sub64 rfl rfl (by omega)) rfl ?_
        | refine L_v (opv_sub rfl rfl) rfl ?_
      refine L_gf_on h2 rfl rfl ?_
      refine L_v (opv_gtr rfl rfl) rfl ?_
      refine L_v (opv_pick_f rfl h2 rfl) rfl ?_
      refine L_v (opv_move rfl) rfl ?_
      refine L_gf rfl rfl (fun h3 => ?_) (fun h3 => ?_) (fun _ h => by cases h; rfl)
      · first
          | refine L_v (opv_fieldAddr0 rfl) rfl ?_
          | refine L_v (opv_fieldAddr rfl) rfl ?_
        refine L_gf_on h3 rfl rfl ?_
        refine L_v ((opv_load rfl (Rd.look rfl)).as (v' := .bool (decide (p.more = true))) (by simp)) rfl ?_
        refine L_v (opv_pick_f rfl h3 rfl) rfl ?_
        refine L_v (opv_move rfl) rfl ?_
        refine L_gf rfl rfl (fun h4 => ?_) (fun h4 => ?_) (fun _ h => by cases h; rfl)
        · first
            | refine L_v (opv_fieldAddr0 rfl) rfl ?_
            | refine L_v (opv_fieldAddr rfl) rfl ?_
          refine L_gf_on h4 rfl rfl ?_
          refine L_v (opv_load rfl (Rd.look rfl)) rfl ?_
          refine L_gf_on h4 rfl rfl ?_
          first
            | refine L_v (opv_neq rfl rfl) rfl ?_
            | refine L_v (opv_neqS rfl rfl) rfl ?_
            | refine L_v (opv_neqNil rfl rfl) rfl ?_
            | refine L_v (opv_neqB rfl rfl) rfl ?_
          refine L_v (opv_pick_f rfl h4 rfl) rfl ?_
          refine L_nil ?_
          refine K_then ?_
          refine J_cond rfl (fun h5 => ?_) (fun h5 => by exfalso; apply h; refine ⟨by omega, by omega, ?_, by omega⟩; cases hmo : p.more with
              | false => rfl
              | true => contradiction)
          refine J_seq ?_
          refine J_region ?_
          refine L_x rfl (opx_call0 (fawake_spec) rfl rfl rfl) (fun _ _ => ?_)
          refine L_emp ?_
          refine L_v (opv_assign rfl) rfl ?_
          refine L_nil ?_
          refine K_then ?_
          refine J_ret ?_
          refine K_then_ret ?_
          exact K_ret1 rfl rfl () trivial (rfl) Ent.take
        · refine L_gf_off h4 rfl rfl ?_ (fun _ h => by cases h; rfl)
          refine L_gf_off h4 rfl rfl ?_ (fun _ h => by cases h; rfl)
          refine L_v (opv_pick_t rfl h4 rfl) rfl ?_
          refine L_nil ?_
          refine K_then ?_
          refine J_cond_true rfl ?_
          refine J_seq ?_
          refine J_region ?_
          refine L_x rfl (opx_call0 (fawake_spec) rfl rfl rfl) (fun _ _ => ?_)
          refine L_emp ?_
          refine L_v (opv_assign rfl) rfl ?_
          refine L_nil ?_
          refine K_then ?_
          refine J_ret ?_
          refine K_then_ret ?_
          exact K_ret1 rfl rfl () trivial (rfl) Ent.take
      · refine L_gf_off h3 rfl rfl ?_ (fun _ h => by cases h; rfl)
        refine L_v (opv_pick_t rfl h3 rfl) rfl ?_
        refine L_v (opv_move rfl) rfl ?_
        refine L_gskip rfl rfl rfl ?_ (fun _ h => by cases h; rfl)
        refine L_gskip rfl rfl rfl ?_ (fun _ h => by cases h; rfl)
        refine L_gskip rfl rfl rfl ?_ (fun _ h => by cases h; rfl)
        first
          | refine L_v (opv_pick_tt rfl rfl) rfl ?_
          | refine L_v (opv_pick_ff rfl rfl) rfl ?_
          | refine L_v (opv_pick rfl rfl rfl) rfl ?_
        refine L_nil ?_
        refine K_then ?_
        refine J_cond_true rfl ?_
        refine J_seq ?_
        refine J_region ?_
        refine L_x rfl (opx_call0 (fawake_spec) rfl rfl rfl) (fun _ _ => ?_)
        refine L_emp ?_
        refine L_v (opv_assign rfl) rfl ?_
        refine L_nil ?_
        refine K_then ?_
        refine J_ret ?_
        refine K_then_ret ?_
        exact K_ret1 rfl rfl () trivial (rfl) Ent.take
    · refine L_gf_off h2 rfl rfl ?_ (fun _ h => by cases h; rfl)
      refine L_gf_off h2 rfl rfl ?_ (fun _ h => by cases h; rfl)
      refine L_gf_off h2 rfl rfl ?_ (fun _ h => by cases h; rfl)
      refine L_gf_off h2 rfl rfl ?_ (fun _ h => by cases h; rfl)
      refine L_gf_off h2 rfl rfl ?_ (fun _ h => by cases h; rfl)
      refine L_v (opv_pick_t rfl h2 rfl) rfl ?_
      refine L_v (opv_move rfl) rfl ?_
      refine L_gskip rfl rfl rfl ?_ (fun _ h => by cases h; rfl)
      refine L_gskip rfl rfl rfl ?_ (fun _ h => by cases h; rfl)
      first
        | refine L_v (opv_pick_tt rfl rfl) rfl ?_
        | refine L_v (opv_pick_ff rfl rfl) rfl ?_
        | refine L_v (opv_pick rfl rfl rfl) rfl ?_
      refine L_v (opv_move rfl) rfl ?_
      refine L_gskip rfl rfl rfl ?_ (fun _ h => by cases h; rfl)
      refine L_gskip rfl rfl rfl ?_ (fun _ h => by cases h; rfl)
      refine L_gskip rfl rfl rfl ?_ (fun _ h => by cases h; rfl)
      first
        | refine L_v (opv_pick_tt rfl rfl) rfl ?_
        | refine L_v (opv_pick_ff rfl rfl) rfl ?_
        | refine L_v (opv_pick rfl rfl rfl) rfl ?_
      refine L_nil ?_
      refine K_then ?_
      refine J_cond_true rfl ?_
      refine J_seq ?_
      refine J_region ?_
      refine L_x rfl (opx_call0 (fawake_spec) rfl rfl rfl) (fun _ _ => ?_)
      refine L_emp ?_
      refine L_v (opv_assign rfl) rfl ?_
      refine L_nil ?_
      refine K_then ?_
      refine J_ret ?_
      refine K_then_ret ?_
      exact K_ret1 rfl rfl () trivial (rfl) Ent.take
  · refine L_gf_off h1 rfl rfl ?_ (fun _ h => by cases h; rfl)
    refine L_v (opv_pick_t rfl h1 rfl) rfl ?_
    refine L_v (opv_move rfl) rfl ?_
    refine L_gskip rfl rfl rfl ?_ (fun _ h => by cases h; rfl)
    refine L_gskip rfl rfl rfl ?_ (fun _ h => by cases h; rfl)
    refine L_gskip rfl rfl rfl ?_ (fun _ h => by cases h; rfl)
    refine L_gskip rfl rfl rfl ?_ (fun _ h => by cases h; rfl)
    refine L_gskip rfl rfl rfl ?_ (fun _ h => by cases h; rfl)
    refine L_gskip rfl rfl rfl ?_ (fun _ h => by cases h; rfl)
    first
      | refine L_v (opv_pick_tt rfl rfl) rfl ?_
      | refine L_v (opv_pick_ff rfl rfl) rfl ?_
      | refine L_v (opv_pick rfl rfl rfl) rfl ?_
    refine L_v (opv_move rfl) rfl ?_
    refine L_gskip rfl rfl rfl ?_ (fun _ h => by cases h; rfl)
    refine L_gskip rfl rfl rfl ?_ (fun _ h => by cases h; rfl)
    first
      | refine L_v (opv_pick_tt rfl rfl) rfl ?_
      | refine L_v (opv_pick_ff rfl rfl) rfl ?_
      | refine L_v (opv_pick rfl rfl rfl) rfl ?_
    refine L_v (opv_move rfl) rfl ?_
    refine L_gskip rfl rfl rfl ?_ (fun _ h => by cases h; rfl)
    refine L_gskip rfl rfl rfl ?_ (fun _ h => by cases h; rfl)
    refine L_gskip rfl rfl rfl ?_ (fun _ h => by cases h; rfl)
    first
      | refine L_v (opv_pick_tt rfl rfl) rfl ?_
      | refine L_v (opv_pick_ff rfl rfl) rfl ?_
      | refine L_v (opv_pick rfl rfl rfl) rfl ?_
    refine L_nil ?_
    refine K_then ?_
    refine J_cond_true rfl ?_
    refine J_seq ?_
    refine J_region ?_
    refine L_x rfl (opx_call0 (fawake_spec) rfl rfl rfl) (fun _ _ => ?_)
    refine L_emp ?_
    refine L_v (opv_assign rfl) rfl ?_
    refine L_nil ?_
    refine K_then ?_
    refine J_ret ?_
    refine K_then_ret ?_
    exact K_ret1 rfl rfl () trivial (rfl) Ent.take

set_option maxHeartbeats 400000 in
theorem FM_ok (W : World) (p : Pk) (m : Nat) (hm : 64 ≤ m ∧ m ≤ 1518) (h : p.more = false) (ho : p.off = 0) (hd : p.data.size ≤ m - 39) : FSpec Try.prog 7 #[.agg [.int .i64 p.id, .bool p.more, .int .i64 p.off, .int .i64 p.ttl, .int .i64 p.proto, .int .u8 p.s0, .int .u8 p.s1, .int .u8 p.s2, .int .u8 p.s3, .int .u8 p.d0, .int .u8 p.d1, .int .u8 p.d2, .int .u8 p.d3, .string p.data].toArray, .int .i64 (m : Nat)] (old W) (fun _ : Unit => True) (fun _ => .bool true) (fun _ => old W) := by
  have h120 : (⟨#[120]⟩ : ByteArray).size = 1 := rfl
  refine FSpec.enter' Try.func7 rfl Try.ntmps7 rfl fun σ F => ?_
  refine J_seq ?_
  refine J_region ?_
  refine L_x rfl (opx_box (l := [.int .i64 p.id, .bool p.more, .int .i64 p.off, .int .i64 p.ttl, .int .i64 p.proto, .int .u8 p.s0, .int .u8 p.s1, .int .u8 p.s2, .int .u8 p.s3, .int .u8 p.d0, .int .u8 p.d1, .int .u8 p.d2, .int .u8 p.d3, .string p.data]) rfl rfl) (fun b2 _ => ?_)
  refine L_v (opv_assign rfl) rfl ?_
  refine L_nil ?_
  refine K_then ?_
  refine J_seq ?_
  refine J_seq ?_
  refine J_region ?_
  refine L_v (opv_move rfl) rfl ?_
  refine L_v ((opv_lss rfl rfl).bool_f (by omega)) rfl ?_
  refine L_v (opv_move rfl) rfl ?_
  refine L_gon rfl rfl rfl ?_
  refine L_v (opv_move rfl) rfl ?_
  refine L_gon rfl rfl rfl ?_
  refine L_v ((opv_gtr rfl rfl).bool_f (by omega)) rfl ?_
  first
    | refine L_v (opv_pick_tt rfl rfl) rfl ?_
    | refine L_v (opv_pick_ff rfl rfl) rfl ?_
    | refine L_v (opv_pick rfl rfl rfl) rfl ?_
  refine L_v (opv_move rfl) rfl ?_
  refine L_gon rfl rfl rfl ?_
  first
    | refine L_v (opv_fieldAddr0 rfl) rfl ?_
    | refine L_v (opv_fieldAddr rfl) rfl ?_
  refine L_gon rfl rfl rfl ?_
  refine L_v (opv_load rfl (Rd.look rfl)) rfl ?_
  refine L_gon rfl rfl rfl ?_
  first
    | refine L_v (opv_lenL rfl) rfl ?_
    | refine L_v (opv_lenS rfl) rfl ?_
  refine L_gon rfl rfl rfl ?_
  refine L_v (opv_move rfl) rfl ?_
  refine L_gon rfl rfl rfl ?_
  first
    | refine L_v (opv_sub64 rfl rfl (by omega)) rfl ?_
    | refine L_v (opv_sub rfl rfl) rfl ?_
  refine L_gon rfl rfl rfl ?_
  refine L_v ((opv_gtr rfl rfl).bool_f (by omega)) rfl ?_
  first
    | refine L_v (opv_pick_tt rfl rfl) rfl ?_
    | refine L_v (opv_pick_ff rfl rfl) rfl ?_
    | refine L_v (opv_pick rfl rfl rfl) rfl ?_
  refine L_v (opv_move rfl) rfl ?_
  refine L_gon rfl rfl rfl ?_
  first
    | refine L_v (opv_fieldAddr0 rfl) rfl ?_
    | refine L_v (opv_fieldAddr rfl) rfl ?_
  refine L_gon rfl rfl rfl ?_
  refine L_v ((opv_load rfl (Rd.look rfl)).as (v' := .bool false) (by rw [h])) rfl ?_
  first
    | refine L_v (opv_pick_tt rfl rfl) rfl ?_
    | refine L_v (opv_pick_ff rfl rfl) rfl ?_
    | refine L_v (opv_pick rfl rfl rfl) rfl ?_
  refine L_v (opv_move rfl) rfl ?_
  refine L_gon rfl rfl rfl ?_
  first
    | refine L_v (opv_fieldAddr0 rfl) rfl ?_
    | refine L_v (opv_fieldAddr rfl) rfl ?_
  refine L_gon rfl rfl rfl ?_
  refine L_v (opv_load rfl (Rd.look rfl)) rfl ?_
  refine L_gon rfl rfl rfl ?_
  refine L_v ((opv_neq rfl rfl).bool_f (fun n => n ho)) rfl ?_
  first
    | refine L_v (opv_pick_tt rfl rfl) rfl ?_
    | refine L_v (opv_pick_ff rfl rfl) rfl ?_
    | refine L_v (opv_pick rfl rfl rfl) rfl ?_
  refine L_nil ?_
  refine K_then ?_
  refine J_cond_false rfl ?_
  refine J_skip ?_
  refine K_then ?_
  refine J_seq ?_
  refine J_region ?_
  refine L_v (opv_loadS rfl) rfl ?_
  refine L_v (opv_move rfl) rfl ?_
  refine L_x rfl (opx_call0 (Split_one p m hm h ho hd) rfl rfl rfl) (fun r _ => ?_)
  refine L_v (opv_move rfl) rfl ?_
  refine L_v (opv_extract rfl rfl) rfl ?_
  refine L_v (opv_extract rfl rfl) rfl ?_
  refine L_v (opv_assign rfl) rfl ?_
  refine L_v (opv_assign rfl) rfl ?_
  refine L_nil ?_
  refine K_then ?_
  refine J_seq ?_
  refine J_seq ?_
  obtain ⟨A, c⟩ := r
  refine J_imp (sep (Own 32 14 (.slice A [p].length c) [p].length ([p].flatMap encPk)) (sep (cel b2 [.int .i64 p.id, .bool p.more, .int .i64 p.off, .int .i64 p.ttl, .int .i64 p.proto, .int .u8 p.s0, .int .u8 p.s1, .int .u8 p.s2, .int .u8 p.s3, .int .u8 p.d0, .int .u8 p.d1, .int .u8 p.d2, .int .u8 p.d3, .string p.data] 32) (sep (old W) (F)))) ?_ ?_
  · exact Ent.take
  refine J_know (fun w hs => own_nonnil hs) fun hA => ?_
  obtain ⟨b, o, rfl⟩ : ∃ b o, A = some (ad b o) := by rcases hA with ⟨_, _, h, _⟩ | h; cases h; exact h
  refine J_quiet Try.mixed (by kernel_rfl) ?_
  refine Q_v (opv_move rfl) rfl ?_
  refine Q_v ((opv_neq rfl rfl).bool_f (by decide)) rfl ?_
  refine Q_v (opv_move rfl) rfl ?_
  refine Q_gon rfl rfl rfl ?_
  refine Q_v (opv_move rfl) rfl ?_
  refine Q_gon rfl rfl rfl ?_
  first
    | refine Q_v (opv_lenL rfl) rfl ?_
    | refine Q_v (opv_lenS rfl) rfl ?_
  refine Q_gon rfl rfl rfl ?_
  refine Q_v ((opv_neq rfl rfl).bool_f (by decide)) rfl ?_
  first
    | refine Q_v (opv_pick_tt rfl rfl) rfl ?_
    | refine Q_v (opv_pick_ff rfl rfl) rfl ?_
    | refine Q_v (opv_pick rfl rfl rfl) rfl ?_
  refine Q_v (opv_move rfl) rfl ?_
  refine Q_gon rfl rfl rfl ?_
  refine Q_v (opv_move rfl) rfl ?_
  refine Q_gon rfl rfl rfl ?_
  refine Q_v (opv_indexAddr rfl rfl (by decide)) rfl ?_
  refine Q_gon rfl rfl rfl ?_
  refine Q_v (opv_loadN (vs := [.int .i64 p.id, .bool p.more, .int .i64 p.off, .int .i64 p.ttl, .int .i64 p.proto, .int .u8 p.s0, .int .u8 p.s1, .int .u8 p.s2, .int .u8 p.s3, .int .u8 p.d0, .int .u8 p.d1, .int .u8 p.d2, .int .u8 p.d3, .string p.data]) rfl rfl (fun j u hj => Rd.of_take (S := Own 32 14 (.slice (some (ad b o)) [p].length c) [p].length ([p].flatMap encPk)) ((RdS.own (m := 14) (e := 32) (c := c) (xs := [p]) encPk_len (.inr ⟨b, o, rfl⟩)).rd b o rfl 0 p j u rfl hj))) rfl ?_
  refine Q_gon rfl rfl rfl ?_
  refine Q_v (opv_loadS rfl) rfl ?_
  refine Q_gon rfl rfl rfl ?_
  refine Q_v ((opv_neqF rfl rfl (by simp [Shape, CK.sh]) (by simp [Shape, CK.sh])).bool_f (fun n => n rfl)) rfl ?_
  first
    | refine Q_v (opv_pick_tt rfl rfl) rfl ?_
    | refine Q_v (opv_pick_ff rfl rfl) rfl ?_
    | refine Q_v (opv_pick rfl rfl rfl) rfl ?_
  refine QL_nil ?_
  refine K_then ?_
  refine J_cond_false rfl ?_
  refine J_skip ?_
  refine K_then ?_
  refine J_seq ?_
  refine J_region ?_
  refine L_v (opv_loadS rfl) rfl ?_
  refine L_x rfl (opx_alloc rfl) (fun b7 _ => ?_)
  refine L_x rfl (opx_store rfl rfl rfl (by simp [Value.oneCell'])) (fun _ _ => ?_)
  refine L_nil ?_
  refine K_then ?_
  refine J_seq ?_
  refine J_block ?_
  refine J_loop (X := ByteArray) (fun t => [(1, .int .i64 (m : Nat)), (7, .pointer (some (ad b7 0)))]) (fun t => (sep (cel b7 [.int .i64 p.id, .bool p.more, .int .i64 p.off, .int .i64 p.ttl, .int .i64 p.proto, .int .u8 p.s0, .int .u8 p.s1, .int .u8 p.s2, .int .u8 p.s3, .int .u8 p.d0, .int .u8 p.d1, .int .u8 p.d2, .int .u8 p.d3, .string t] 32) (sep (old W) (F)))) (fun t => t.size ≤ m - 38) (fun t => m - t.size) (p.data) (by omega) ⟨rfl, rfl, trivial⟩ Ent.take (fun t ht => ?_)
  refine J_seq ?_
  refine J_seq ?_
  refine J_region ?_
  first
    | refine L_v (opv_fieldAddr0 rfl) rfl ?_
    | refine L_v (opv_fieldAddr rfl) rfl ?_
  refine L_v (opv_load rfl (Rd.look rfl)) rfl ?_
  first
    | refine L_v (opv_lenL rfl) rfl ?_
    | refine L_v (opv_lenS rfl) rfl ?_
  refine L_v (opv_move rfl) rfl ?_
  first
    | refine L_v (opv_sub64 rfl rfl (by omega)) rfl ?_
    | refine L_v (opv_sub rfl rfl) rfl ?_
  refine L_v (opv_leq rfl rfl) rfl ?_
  refine L_nil ?_
  refine K_then ?_
  refine J_cond rfl (fun h1 => ?_) (fun h1 => ?_)
  · refine J_skip ?_
    refine K_then ?_
    refine J_block ?_
    refine J_region ?_
    first
      | refine L_v (opv_fieldAddr0 rfl) rfl ?_
      | refine L_v (opv_fieldAddr rfl) rfl ?_
    refine L_v (opv_load rfl (Rd.look rfl)) rfl ?_
    refine L_v (opv_addS rfl rfl (by omega)) rfl ?_
    first
      | refine L_v (opv_fieldAddr0 rfl) rfl ?_
      | refine L_v (opv_fieldAddr rfl) rfl ?_
    refine L_x rfl (opx_store rfl rfl rfl (by simp [Value.oneCell'])) (fun _ _ => ?_)
    refine L_nil ?_
    refine K_block ?_
    exact K_loop ((t ++ (⟨#[120]⟩ : ByteArray))) (by rw [ByteArray.size_append, h120]; omega) (by rw [ByteArray.size_append, h120]; omega) ⟨rfl, rfl, trivial⟩ (Ent.refl _)
  · refine J_exit ?_
    refine K_then_exit ?_
    refine K_then_exit ?_
    refine K_block_here ?_
    refine K_then ?_
    refine J_seq ?_
    refine J_region ?_
    refine L_v (opv_loadS rfl) rfl ?_
    refine L_v (opv_move rfl) rfl ?_
    refine L_x rfl (opx_call0 (Split_two p m t hm h ho (by omega)) rfl rfl rfl) (fun r2 _ => ?_)
    refine L_emp ?_
    refine L_v (opv_move rfl) rfl ?_
    refine L_v (opv_extract rfl rfl) rfl ?_
    refine L_v (opv_extract rfl rfl) rfl ?_
    refine L_v (opv_assign rfl) rfl ?_
    refine L_v (opv_assign rfl) rfl ?_
    refine L_nil ?_
    refine K_then ?_
    refine J_seq ?_
    refine J_region ?_
    refine L_v (opv_move rfl) rfl ?_
    refine L_v ((opv_eql rfl rfl).bool_t rfl) rfl ?_
    refine L_v (opv_move rfl) rfl ?_
    refine L_gon rfl rfl rfl ?_
    refine L_v (opv_move rfl) rfl ?_
    refine L_gon rfl rfl rfl ?_
    first
      | refine L_v (opv_lenL rfl) rfl ?_
      | refine L_v (opv_lenS rfl) rfl ?_
    refine L_gon rfl rfl rfl ?_
    refine L_v ((opv_eql rfl rfl).bool_t rfl) rfl ?_
    first
      | refine L_v (opv_pick_tt rfl rfl) rfl ?_
      | refine L_v (opv_pick_ff rfl rfl) rfl ?_
      | refine L_v (opv_pick rfl rfl rfl) rfl ?_
    refine L_v (opv_move rfl) rfl ?_
    refine L_gon rfl rfl rfl ?_
    refine L_x rfl (opx_call0 (fawake_spec) rfl rfl rfl) (fun _ _ => ?_)
    refine L_emp ?_
    first
      | refine L_v (opv_pick_tt rfl rfl) rfl ?_
      | refine L_v (opv_pick_ff rfl rfl) rfl ?_
      | refine L_v (opv_pick rfl rfl rfl) rfl ?_
    refine L_v (opv_assign rfl) rfl ?_
    refine L_nil ?_
    refine K_then ?_
    refine J_ret ?_
    exact K_ret1 rfl rfl () trivial (rfl) Ent.take

theorem FragSmall_law (W : World) (p : Pk) (m : Int) (hm : -9223372036854775808 ≤ m ∧ m ≤ 9223372036854775807) : FSpec Try.prog 7 #[.agg (encPk p).toArray, .int .i64 m] (old W) (fun _ : Unit => True) (fun _ => .bool true) (fun _ => old W) := by
  by_cases h : smallB p m
  · obtain ⟨h1, h2, h3, h4⟩ := h
    unfold sizeB at h1
    obtain ⟨k, rfl⟩ : ∃ k : Nat, m = k := ⟨m.toNat, by omega⟩
    exact FM_ok W p k (by omega) h3 h4 (by omega)
  · exact FM_no W p m hm.1 h

end Go.Proofs.Ytjpbpfihacfndaa
namespace Go.Proofs.Ytjpbpfihacfndaa.fragSmall
open Go.ChangeShapes Go.WideShapes Go.ChangeAt Go.RowKit Go.SLA
open Go.ChangeMaps (open_string shut_string)
set_option linter.unusedVariables false
theorem own : ownKnob Try.prog.godebug = none := by kernel_rfl
theorem laidOut : laidOutB Try.prog = true := by kernel_rfl
set_option maxRecDepth 100000 in
theorem lifted (os : Os) (started : os.Started) (H : Type) (enc : TypeId × Value → H) :
    ReturnsInHanded {} Try.checked os 7 .any (Rows.fragSmallSpec.pre6 enc Try.prog Try.f7 Rows.fragSmallRow.domain false) (Rows.fragSmallSpec.post enc Try.prog Try.f7 false true false false) := by
  refine returnsInHanded_of_change_sized (C := Try.checked) own started (by kernel_rfl) Try.func7
    (ChangeSpec.witness6 (enc := enc) (C := Try.checked) false ⟨#[], #[.agg (encPk pkz).toArray, .int .i64 0], []⟩ 8 (by kernel_rfl) (by kernel_rfl) (by kernel_rfl) (by kernel_rfl)) ?_
  intro W base args ds gs before hval0 hW hcnd hsz0 _
  have hsz : (DataW.weightsEach Try.prog (Try.f7.params.toList ++ Rows.fragSmallSpec.plain.varTypes Try.prog) (ds ++ gs)).all (· ≤ reachBytes) = true := hsz0
  have hval : ∀ (j : Nat) t v, Try.f7.params[j]? = some t → args[j]? = some v → Value.okWide Try.prog W .any base t v := hval0
  have hW' := hW
  obtain ⟨p, q, hA0, hV, rfl, hfz, hnd⟩ := hW
  have hA : DataW.TrodAll enc Try.prog W 0 (fun _ => true) true Try.f7.params.toList args.toList ds p := hA0
  rw [Try.params7] at hA hval hsz
  obtain ⟨v0, vs0, d0, ds0, p0, q0, hargs, rfl, rfl, h0, r0⟩ := trodAll_cons hA
  obtain ⟨v1, vs1, d1, ds1, p1, q1, rfl, rfl, rfl, h1, r1⟩ := trodAll_cons r0
  obtain ⟨rfl, rfl, rfl⟩ := trodAll_nil r1
  obtain rfl : args = #[v0, v1] := by cases args; simp_all
  obtain ⟨rfl, rfl⟩ := trodVars_none hV
  have k0 := h0
  have lt0 : ∀ x ∈ p0, x.block < W.heap.size := by obtain ⟨m, hm⟩ := k0; exact DataW.trod_lt m _ _ _ hm
  obtain ⟨l0, rfl, g0⟩ := open_flat (D := 5) (ks := ksPk) (by kernel_rfl) (by kernel_rfl) (hval 0 32 v0 rfl rfl) h0
  obtain ⟨x0, rfl, ok0⟩ := decPk l0 g0
  have k1 := h1
  have lt1 : ∀ x ∈ p1, x.block < W.heap.size := by obtain ⟨m, hm⟩ := k1; exact DataW.trod_lt m _ _ _ hm
  obtain ⟨a1, rfl, rfl, rfl, w1⟩ := open_int Try.underlying3 (hval 1 3 v1 rfl rfl) h1
  clear hA0 hval0 hsz0 hsz
  refine (FSpec.law (FragSmall_law W x0 a1 (by simpa [Lit.wf, IntKind.min, IntKind.max, IntKind.signed, IntKind.bits] using w1))).mono fun e W' ⟨he, bel⟩ => ?_
  subst he
  exact ⟨_, rfl, _, _, _, [], _, [], hW', trodAll_mk1 (shut_bool Try.underlying4 _), (trodAll_cons_mk (Below.trod laidOut (by kernel_rfl) (of_decide_eq_true (by kernel_rfl)) k0 bel lt0) (trodAll_cons_mk (Below.trod laidOut (by kernel_rfl) (of_decide_eq_true (by kernel_rfl)) k1 bel lt1) trodAll_mk0)), rfl, bel.frame _, fun h => by cases h⟩
theorem over : Rows.fragSmallRow.holds Try.pinned (OpenSpec.ofChange Rows.fragSmallSpec) :=
  OpenClaim.holds_of_wide 7 Try.f7 rfl rfl rfl rfl rfl rfl rfl ⟨rfl, rfl, rfl, rfl, rfl⟩ rfl rfl rfl rfl rfl (by kernel_rfl) Try.func7 (by kernel_rfl)
    (of_decide_eq_true (by kernel_rfl)) (by unfold Func.isWrapper; first | (rw [if_pos (by decide +kernel)]; kernel_rfl) | (rw [if_neg (by decide +kernel)]; exact ⟨rfl, rfl⟩))
    (fun os started H enc _ => lifted os started H enc)
end Go.Proofs.Ytjpbpfihacfndaa.fragSmall
namespace Go.Proofs.Ytjpbpfihacfndaa
theorem fragSmall_holds : Rows.FragSmallSaid := fragSmall.over
#print axioms fragSmall_holds
end Go.Proofs.Ytjpbpfihacfndaa
namespace Go.Proofs.Ytjpbpfihacfndaa
open Go.SLA
end Go.Proofs.Ytjpbpfihacfndaa
