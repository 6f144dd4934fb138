/- The law ReasmAlone of the package pitotlaw09 holds for every input: a packet that is no part comes out at once, as it is, and turns nothing else. No condition. -/
import Derived.Test.YtjpbpfihacfndaaRg
import Derived.Test.YtjpbpfihacfndaaH
namespace Go.Proofs.Ytjpbpfihacfndaa
open Go.SLA
set_option maxRecDepth 100000
set_option linter.unusedVariables false
set_option linter.unusedSimpArgs false
attribute [local irreducible] J L K QL Rg FSpec OpV OpX Rd Back

theorem put_now (T : TS) (m wt now : Int) (p : Pk) : (T.put m wt now p).2.now = T.now ∨ (T.put m wt now p).2.now = now := by
  have hb : ((T.pass wt now).begn m p).2.now = now := by
    have hf : ((T.pass wt now).free (kyOf p)).now = now := by unfold TS.free; split <;> rfl
    by_cases h1 : sndC p 0 = 0
    · by_cases h2 : m ≤ (((T.pass wt now).free (kyOf p)).q.length : Int)
      · rw [begn_full h1 h2]; exact hf
      · rw [begn_ok h1 h2]; exact hf
    · rw [begn_bad h1]; exact hf
  by_cases ht : timC T.now now = 0
  · right
    by_cases ho : p.off = 0
    · cases hm : p.more with
      | false => rw [put_whole ht ho hm]; rfl
      | true => rw [put_begin ht ho hm]; exact hb
    · cases hf : bfind (T.pass wt now).q (kyOf p) with
      | none => rw [put_none ht ho hf]; rfl
      | some b =>
        rw [put_some ht ho hf]
        split
        · rfl
        · split <;> rfl
  · left; rw [put_bad ht]
/-- A packet that is no part, soon enough for all that are begun. -/
theorem put_alone (tp : Nat) (m wt : Int) (T : TS) (now : Int) (pk : Pk) (n : Nat) (hT : TOk n T) (hn : n ≤ 1000000) (hwt : 0 ≤ wt ∧ wt ≤ 1125899906842624) (hd : pk.data.size ≤ 140737488351232) (h : timC T.now now = 0) (ho : pk.off = 0) (hm : pk.more = false) (hs : ∀ b ∈ T.q, ¬ wt < now - b.t) :
    FSpec Try.prog 32 #[.pointer (some (ad tp 0)), .int .i64 now, .agg [.int .i64 pk.id, .bool pk.more, .int .i64 pk.off, .int .i64 pk.ttl, .int .i64 pk.proto, .int .u8 pk.s0, .int .u8 pk.s1, .int .u8 pk.s2, .int .u8 pk.s3, .int .u8 pk.d0, .int .u8 pk.d1, .int .u8 pk.d2, .int .u8 pk.d3, .string pk.data].toArray] (TabP tp m wt T) (fun _ : Unit => True) (fun _ => .tuple #[.agg [.int .i64 pk.id, .bool pk.more, .int .i64 pk.off, .int .i64 pk.ttl, .int .i64 pk.proto, .int .u8 pk.s0, .int .u8 pk.s1, .int .u8 pk.s2, .int .u8 pk.s3, .int .u8 pk.d0, .int .u8 pk.d1, .int .u8 pk.d2, .int .u8 pk.d3, .string pk.data].toArray, .bool true, .int .i64 0]) (fun _ => TabP tp m wt ⟨T.q, now, T.dr⟩) := by
  have := Put_whole tp m wt T now pk h n hT hn hwt hd ho hm
  have e : T.pass wt now = ⟨T.q, now, T.dr⟩ := pass_stop (q := T.q) (n0 := T.now) (d := T.dr) (fun b hb => hs b (List.mem_of_mem_head? hb))
  rwa [e] at this

theorem RA_bad (W : World) (A : Option Addr) (c : Nat) (xs : List Pk) (p : Pk) (hR : RdS (old W) encPk 14 A xs) (hx : xs.length ≤ 9223372036854775807) (hb : ¬ (xs.length ≤ 40 ∧ p.data.size ≤ 2000 ∧ p.more = false ∧ p.off = 0)) : FSpec Try.prog 11 #[.slice A xs.length c, .agg (encPk p).toArray] (old W) (fun _ : Unit => True) (fun _ => .bool true) (fun _ => old W) := by
  refine FSpec.enter' Try.func11 rfl Try.ntmps11 rfl fun σ F => ?_
  refine J_seq ?_
  refine J_region ?_
  refine L_x rfl (opx_box (l := [.int .i64 p.id, .bool p.more, .int .i64 p.off, .int .i64 p.ttl, .int .i64 p.proto, .int .u8 p.s0, .int .u8 p.s1, .int .u8 p.s2, .int .u8 p.s3, .int .u8 p.d0, .int .u8 p.d1, .int .u8 p.d2, .int .u8 p.d3, .string p.data]) rfl rfl) (fun b3 _ => ?_)
  refine L_v (opv_assign rfl) rfl ?_
  refine L_nil ?_
  refine K_then ?_
  refine J_seq ?_
  refine J_region ?_
  refine L_x rfl (opx_call0 (New_okE 64 1000 (by decide) (by decide)) rfl rfl rfl) (fun tp _ => ?_)
  refine L_v (opv_move rfl) rfl ?_
  refine L_v (opv_extract rfl rfl) rfl ?_
  refine L_v (opv_extract rfl rfl) rfl ?_
  refine L_v (opv_assign rfl) rfl ?_
  refine L_v (opv_assign rfl) rfl ?_
  refine L_nil ?_
  refine K_then ?_
  refine J_seq ?_
  refine J_seq ?_
  refine J_region ?_
  refine L_v (opv_move rfl) rfl ?_
  refine L_v ((opv_neq rfl rfl).bool_f (by decide)) rfl ?_
  refine L_v (opv_move rfl) rfl ?_
  refine L_gon rfl rfl rfl ?_
  refine L_v (opv_move rfl) rfl ?_
  refine L_gon rfl rfl rfl ?_
  first
    | refine L_v (opv_eql rfl rfl) rfl ?_
    | refine L_v (opv_eqlS rfl rfl) rfl ?_
    | refine L_v (opv_eqlNil rfl rfl) rfl ?_
    | refine L_v (opv_eqlB rfl rfl) rfl ?_
  first
    | refine L_v (opv_pick_tt rfl rfl) rfl ?_
    | refine L_v (opv_pick_ff rfl rfl) rfl ?_
    | refine L_v (opv_pick rfl rfl rfl) rfl ?_
  refine L_v (opv_move rfl) rfl ?_
  refine L_gon rfl rfl rfl ?_
  refine L_v (opv_move rfl) rfl ?_
  refine L_gon rfl rfl rfl ?_
  first
    | refine L_v (opv_lenL rfl) rfl ?_
    | refine L_v (opv_lenS rfl) rfl ?_
  refine L_gon rfl rfl rfl ?_
  refine L_v (opv_gtr rfl rfl) rfl ?_
  first
    | refine L_v (opv_pick_tt rfl rfl) rfl ?_
    | refine L_v (opv_pick_ff rfl rfl) rfl ?_
    | refine L_v (opv_pick rfl rfl rfl) rfl ?_
  refine L_v (opv_move rfl) rfl ?_
  refine L_gf rfl rfl (fun h1 => ?_) (fun h1 => ?_) (fun _ h => by cases h; rfl)
  · first
      | refine L_v (opv_fieldAddr0 rfl) rfl ?_
      | refine L_v (opv_fieldAddr rfl) rfl ?_
    refine L_gf_on h1 rfl rfl ?_
    refine L_v (opv_load rfl (Rd.look rfl)) rfl ?_
    refine L_gf_on h1 rfl rfl ?_
    first
      | refine L_v (opv_lenL rfl) rfl ?_
      | refine L_v (opv_lenS rfl) rfl ?_
    refine L_gf_on h1 rfl rfl ?_
    refine L_v (opv_gtr rfl rfl) rfl ?_
    refine L_v (opv_pick_f rfl h1 rfl) rfl ?_
    refine L_v (opv_move rfl) rfl ?_
    refine L_gf rfl rfl (fun h2 => ?_) (fun h2 => ?_) (fun _ h => by cases h; rfl)
    · first
        | refine L_v (opv_fieldAddr0 rfl) rfl ?_
        | refine L_v (opv_fieldAddr rfl) rfl ?_
      refine L_gf_on h2 rfl rfl ?_
      refine L_v ((opv_load rfl (Rd.look rfl)).as (v' := .bool (decide (p.more = true))) (by simp)) rfl ?_
      refine L_v (opv_pick_f rfl h2 rfl) rfl ?_
      refine L_v (opv_move rfl) rfl ?_
      refine L_gf rfl rfl (fun h3 => ?_) (fun h3 => ?_) (fun _ h => by cases h; rfl)
      · first
          | refine L_v (opv_fieldAddr0 rfl) rfl ?_
          | refine L_v (opv_fieldAddr rfl) rfl ?_
        refine L_gf_on h3 rfl rfl ?_
        refine L_v (opv_load rfl (Rd.look rfl)) rfl ?_
        refine L_gf_on h3 rfl rfl ?_
        first
          | refine L_v (opv_neq rfl rfl) rfl ?_
          | refine L_v (opv_neqS rfl rfl) rfl ?_
          | refine L_v (opv_neqNil rfl rfl) rfl ?_
          | refine L_v (opv_neqB rfl rfl) rfl ?_
        refine L_v (opv_pick_f rfl h3 rfl) rfl ?_
        refine L_nil ?_
        refine K_then ?_
        refine J_cond rfl (fun h4 => ?_) (fun h4 => absurd ⟨by omega, by omega, (by first | (simpa using (by assumption : ¬ p.more = true)) | assumption), by omega⟩ hb)
        refine J_seq ?_
        refine J_region ?_
        refine L_v (opv_move rfl) rfl ?_
        refine L_v ((opv_eql rfl rfl).bool_t rfl) rfl ?_
        refine L_v (opv_move rfl) rfl ?_
        refine L_gon rfl rfl rfl ?_
        refine L_v (opv_move rfl) rfl ?_
        refine L_gon rfl rfl rfl ?_
        refine L_v (opv_neqNil rfl rfl) rfl ?_
        first
          | refine L_v (opv_pick_tt rfl rfl) rfl ?_
          | refine L_v (opv_pick_ff rfl rfl) rfl ?_
          | refine L_v (opv_pick rfl rfl rfl) rfl ?_
        refine L_v (opv_move rfl) rfl ?_
        refine L_gon rfl rfl rfl ?_
        refine L_x rfl (opx_call0 (rawake_spec) rfl rfl rfl) (fun _ _ => ?_)
        refine L_emp ?_
        first
          | refine L_v (opv_pick_tt rfl rfl) rfl ?_
          | refine L_v (opv_pick_ff rfl rfl) rfl ?_
          | refine L_v (opv_pick rfl rfl rfl) rfl ?_
        refine L_v (opv_assign rfl) rfl ?_
        refine L_nil ?_
        refine K_then ?_
        refine J_ret ?_
        refine K_then_ret ?_
        exact K_ret1 rfl rfl () trivial (rfl) Ent.take
      · refine L_gf_off h3 rfl rfl ?_ (fun _ h => by cases h; rfl)
        refine L_gf_off h3 rfl rfl ?_ (fun _ h => by cases h; rfl)
        refine L_v (opv_pick_t rfl h3 rfl) rfl ?_
        refine L_nil ?_
        refine K_then ?_
        refine J_cond_true rfl ?_
        refine J_seq ?_
        refine J_region ?_
        refine L_v (opv_move rfl) rfl ?_
        refine L_v ((opv_eql rfl rfl).bool_t rfl) rfl ?_
        refine L_v (opv_move rfl) rfl ?_
        refine L_gon rfl rfl rfl ?_
        refine L_v (opv_move rfl) rfl ?_
        refine L_gon rfl rfl rfl ?_
        refine L_v (opv_neqNil rfl rfl) rfl ?_
        first
          | refine L_v (opv_pick_tt rfl rfl) rfl ?_
          | refine L_v (opv_pick_ff rfl rfl) rfl ?_
          | refine L_v (opv_pick rfl rfl rfl) rfl ?_
        refine L_v (opv_move rfl) rfl ?_
        refine L_gon rfl rfl rfl ?_
        refine L_x rfl (opx_call0 (rawake_spec) rfl rfl rfl) (fun _ _ => ?_)
        refine L_emp ?_
        first
          | refine L_v (opv_pick_tt rfl rfl) rfl ?_
          | refine L_v (opv_pick_ff rfl rfl) rfl ?_
          | refine L_v (opv_pick rfl rfl rfl) rfl ?_
        refine L_v (opv_assign rfl) rfl ?_
        refine L_nil ?_
        refine K_then ?_
        refine J_ret ?_
        refine K_then_ret ?_
        exact K_ret1 rfl rfl () trivial (rfl) Ent.take
    · refine L_gf_off h2 rfl rfl ?_ (fun _ h => by cases h; rfl)
      refine L_v (opv_pick_t rfl h2 rfl) rfl ?_
      refine L_v (opv_move rfl) rfl ?_
      refine L_gskip rfl rfl rfl ?_ (fun _ h => by cases h; rfl)
      refine L_gskip rfl rfl rfl ?_ (fun _ h => by cases h; rfl)
      refine L_gskip rfl rfl rfl ?_ (fun _ h => by cases h; rfl)
      first
        | refine L_v (opv_pick_tt rfl rfl) rfl ?_
        | refine L_v (opv_pick_ff rfl rfl) rfl ?_
        | refine L_v (opv_pick rfl rfl rfl) rfl ?_
      refine L_nil ?_
      refine K_then ?_
      refine J_cond_true rfl ?_
      refine J_seq ?_
      refine J_region ?_
      refine L_v (opv_move rfl) rfl ?_
      refine L_v ((opv_eql rfl rfl).bool_t rfl) rfl ?_
      refine L_v (opv_move rfl) rfl ?_
      refine L_gon rfl rfl rfl ?_
      refine L_v (opv_move rfl) rfl ?_
      refine L_gon rfl rfl rfl ?_
      refine L_v (opv_neqNil rfl rfl) rfl ?_
      first
        | refine L_v (opv_pick_tt rfl rfl) rfl ?_
        | refine L_v (opv_pick_ff rfl rfl) rfl ?_
        | refine L_v (opv_pick rfl rfl rfl) rfl ?_
      refine L_v (opv_move rfl) rfl ?_
      refine L_gon rfl rfl rfl ?_
      refine L_x rfl (opx_call0 (rawake_spec) rfl rfl rfl) (fun _ _ => ?_)
      refine L_emp ?_
      first
        | refine L_v (opv_pick_tt rfl rfl) rfl ?_
        | refine L_v (opv_pick_ff rfl rfl) rfl ?_
        | refine L_v (opv_pick rfl rfl rfl) rfl ?_
      refine L_v (opv_assign rfl) rfl ?_
      refine L_nil ?_
      refine K_then ?_
      refine J_ret ?_
      refine K_then_ret ?_
      exact K_ret1 rfl rfl () trivial (rfl) Ent.take
  · refine L_gf_off h1 rfl rfl ?_ (fun _ h => by cases h; rfl)
    refine L_gf_off h1 rfl rfl ?_ (fun _ h => by cases h; rfl)
    refine L_gf_off h1 rfl rfl ?_ (fun _ h => by cases h; rfl)
    refine L_v (opv_pick_t rfl h1 rfl) rfl ?_
    refine L_v (opv_move rfl) rfl ?_
    refine L_gskip rfl rfl rfl ?_ (fun _ h => by cases h; rfl)
    refine L_gskip rfl rfl rfl ?_ (fun _ h => by cases h; rfl)
    first
      | refine L_v (opv_pick_tt rfl rfl) rfl ?_
      | refine L_v (opv_pick_ff rfl rfl) rfl ?_
      | refine L_v (opv_pick rfl rfl rfl) rfl ?_
    refine L_v (opv_move rfl) rfl ?_
    refine L_gskip rfl rfl rfl ?_ (fun _ h => by cases h; rfl)
    refine L_gskip rfl rfl rfl ?_ (fun _ h => by cases h; rfl)
    refine L_gskip rfl rfl rfl ?_ (fun _ h => by cases h; rfl)
    first
      | refine L_v (opv_pick_tt rfl rfl) rfl ?_
      | refine L_v (opv_pick_ff rfl rfl) rfl ?_
      | refine L_v (opv_pick rfl rfl rfl) rfl ?_
    refine L_nil ?_
    refine K_then ?_
    refine J_cond_true rfl ?_
    refine J_seq ?_
    refine J_region ?_
    refine L_v (opv_move rfl) rfl ?_
    refine L_v ((opv_eql rfl rfl).bool_t rfl) rfl ?_
    refine L_v (opv_move rfl) rfl ?_
    refine L_gon rfl rfl rfl ?_
    refine L_v (opv_move rfl) rfl ?_
    refine L_gon rfl rfl rfl ?_
    refine L_v (opv_neqNil rfl rfl) rfl ?_
    first
      | refine L_v (opv_pick_tt rfl rfl) rfl ?_
      | refine L_v (opv_pick_ff rfl rfl) rfl ?_
      | refine L_v (opv_pick rfl rfl rfl) rfl ?_
    refine L_v (opv_move rfl) rfl ?_
    refine L_gon rfl rfl rfl ?_
    refine L_x rfl (opx_call0 (rawake_spec) rfl rfl rfl) (fun _ _ => ?_)
    refine L_emp ?_
    first
      | refine L_v (opv_pick_tt rfl rfl) rfl ?_
      | refine L_v (opv_pick_ff rfl rfl) rfl ?_
      | refine L_v (opv_pick rfl rfl rfl) rfl ?_
    refine L_v (opv_assign rfl) rfl ?_
    refine L_nil ?_
    refine K_then ?_
    refine J_ret ?_
    refine K_then_ret ?_
    exact K_ret1 rfl rfl () trivial (rfl) Ent.take

set_option maxHeartbeats 800000 in
theorem RA_ok (W : World) (A : Option Addr) (c : Nat) (xs : List Pk) (p : Pk) (hR : RdS (old W) encPk 14 A xs) (hx : xs.length ≤ 9223372036854775807) (h1 : xs.length ≤ 40) (h2 : p.data.size ≤ 2000) (h3 : p.more = false) (h4 : p.off = 0) : FSpec Try.prog 11 #[.slice A xs.length c, .agg (encPk p).toArray] (old W) (fun _ : Unit => True) (fun _ => .bool true) (fun _ => old W) := by
  refine FSpec.enter' Try.func11 rfl Try.ntmps11 rfl fun σ F => ?_
  refine J_seq ?_
  refine J_region ?_
  refine L_x rfl (opx_box (l := [.int .i64 p.id, .bool p.more, .int .i64 p.off, .int .i64 p.ttl, .int .i64 p.proto, .int .u8 p.s0, .int .u8 p.s1, .int .u8 p.s2, .int .u8 p.s3, .int .u8 p.d0, .int .u8 p.d1, .int .u8 p.d2, .int .u8 p.d3, .string p.data]) rfl rfl) (fun b3 _ => ?_)
  refine L_v (opv_assign rfl) rfl ?_
  refine L_nil ?_
  refine K_then ?_
  refine J_seq ?_
  refine J_region ?_
  refine L_x rfl (opx_call0 (New_okE 64 1000 (by decide) (by decide)) rfl rfl rfl) (fun tp _ => ?_)
  refine L_v (opv_move rfl) rfl ?_
  refine L_v (opv_extract rfl rfl) rfl ?_
  refine L_v (opv_extract rfl rfl) rfl ?_
  refine L_v (opv_assign rfl) rfl ?_
  refine L_v (opv_assign rfl) rfl ?_
  refine L_nil ?_
  refine K_then ?_
  refine J_seq ?_
  refine J_seq ?_
  refine J_region ?_
  refine L_v (opv_move rfl) rfl ?_
  refine L_v ((opv_neq rfl rfl).bool_f (by decide)) rfl ?_
  refine L_v (opv_move rfl) rfl ?_
  refine L_gon rfl rfl rfl ?_
  refine L_v (opv_move rfl) rfl ?_
  refine L_gon rfl rfl rfl ?_
  first
    | refine L_v (opv_eql rfl rfl) rfl ?_
    | refine L_v (opv_eqlS rfl rfl) rfl ?_
    | refine L_v (opv_eqlNil rfl rfl) rfl ?_
    | refine L_v (opv_eqlB rfl rfl) rfl ?_
  first
    | refine L_v (opv_pick_tt rfl rfl) rfl ?_
    | refine L_v (opv_pick_ff rfl rfl) rfl ?_
    | refine L_v (opv_pick rfl rfl rfl) rfl ?_
  refine L_v (opv_move rfl) rfl ?_
  refine L_gon rfl rfl rfl ?_
  refine L_v (opv_move rfl) rfl ?_
  refine L_gon rfl rfl rfl ?_
  first
    | refine L_v (opv_lenL rfl) rfl ?_
    | refine L_v (opv_lenS rfl) rfl ?_
  refine L_gon rfl rfl rfl ?_
  refine L_v ((opv_gtr rfl rfl).bool_f (by omega)) rfl ?_
  first
    | refine L_v (opv_pick_tt rfl rfl) rfl ?_
    | refine L_v (opv_pick_ff rfl rfl) rfl ?_
    | refine L_v (opv_pick rfl rfl rfl) rfl ?_
  refine L_v (opv_move rfl) rfl ?_
  refine L_gon rfl rfl rfl ?_
  first
    | refine L_v (opv_fieldAddr0 rfl) rfl ?_
    | refine L_v (opv_fieldAddr rfl) rfl ?_
  refine L_gon rfl rfl rfl ?_
  refine L_v (opv_load rfl (Rd.look rfl)) rfl ?_
  refine L_gon rfl rfl rfl ?_
  first
    | refine L_v (opv_lenL rfl) rfl ?_
    | refine L_v (opv_lenS rfl) rfl ?_
  refine L_gon rfl rfl rfl ?_
  refine L_v ((opv_gtr rfl rfl).bool_f (by omega)) rfl ?_
  first
    | refine L_v (opv_pick_tt rfl rfl) rfl ?_
    | refine L_v (opv_pick_ff rfl rfl) rfl ?_
    | refine L_v (opv_pick rfl rfl rfl) rfl ?_
  refine L_v (opv_move rfl) rfl ?_
  refine L_gon rfl rfl rfl ?_
  first
    | refine L_v (opv_fieldAddr0 rfl) rfl ?_
    | refine L_v (opv_fieldAddr rfl) rfl ?_
  refine L_gon rfl rfl rfl ?_
  refine L_v ((opv_load rfl (Rd.look rfl)).as (v' := .bool false) (by rw [h3])) rfl ?_
  first
    | refine L_v (opv_pick_tt rfl rfl) rfl ?_
    | refine L_v (opv_pick_ff rfl rfl) rfl ?_
    | refine L_v (opv_pick rfl rfl rfl) rfl ?_
  refine L_v (opv_move rfl) rfl ?_
  refine L_gon rfl rfl rfl ?_
  first
    | refine L_v (opv_fieldAddr0 rfl) rfl ?_
    | refine L_v (opv_fieldAddr rfl) rfl ?_
  refine L_gon rfl rfl rfl ?_
  refine L_v (opv_load rfl (Rd.look rfl)) rfl ?_
  refine L_gon rfl rfl rfl ?_
  refine L_v ((opv_neq rfl rfl).bool_f (fun n => n h4)) rfl ?_
  first
    | refine L_v (opv_pick_tt rfl rfl) rfl ?_
    | refine L_v (opv_pick_ff rfl rfl) rfl ?_
    | refine L_v (opv_pick rfl rfl rfl) rfl ?_
  refine L_nil ?_
  refine K_then ?_
  refine J_cond_false rfl ?_
  refine J_skip ?_
  refine K_then ?_
  refine J_seq ?_
  refine J_seq ?_
  refine J_region ?_
  refine L_v (opv_assign rfl) rfl ?_
  refine L_nil ?_
  refine K_then ?_
  refine J_block ?_
  refine J_loop (X := Nat × TS) (fun y => [(0, .slice A xs.length c), (3, .pointer (some (ad b3 0))), (5, .pointer (some (ad tp 0))), (7, .int .i64 y.1)]) (fun y => (sep (TabP tp 64 1000 y.2) (sep (cel b3 [.int .i64 p.id, .bool p.more, .int .i64 p.off, .int .i64 p.ttl, .int .i64 p.proto, .int .u8 p.s0, .int .u8 p.s1, .int .u8 p.s2, .int .u8 p.s3, .int .u8 p.d0, .int .u8 p.d1, .int .u8 p.d2, .int .u8 p.d3, .string p.data] 32) (sep (old W) (F))))) (fun y => y.1 ≤ xs.length ∧ TOk y.1 y.2 ∧ y.2.now ≤ y.1) (fun y => xs.length - y.1) ((0, ⟨[], 0, 0⟩)) ⟨Nat.zero_le _, tok0, Int.le_refl _⟩ ⟨rfl, rfl, rfl, rfl, trivial⟩ Ent.take (fun y hy => ?_)
  obtain ⟨hk, hok, hnow⟩ := hy
  have hok2 := hok.n
  have hok3 := hok.dr
  refine J_seq ?_
  refine J_seq ?_
  refine J_region ?_
  refine L_v (opv_move rfl) rfl ?_
  refine L_v (opv_move rfl) rfl ?_
  first
    | refine L_v (opv_lenL rfl) rfl ?_
    | refine L_v (opv_lenS rfl) rfl ?_
  refine L_v (opv_lss rfl rfl) rfl ?_
  refine L_nil ?_
  refine K_then ?_
  refine J_cond rfl (fun h1 => ?_) (fun h1 => ?_)
  · have hkl : y.1 < xs.length := by omega
    obtain ⟨x, hxx⟩ : ∃ x, xs[y.1]? = some x := ⟨_, List.getElem?_eq_getElem hkl⟩
    obtain ⟨b, o, rfl⟩ := hR.nonnil y.1 hkl
    refine J_skip ?_
    refine K_then ?_
    refine J_seq ?_
    refine J_block ?_
    refine J_seq ?_
    refine J_seq ?_
    refine J_region ?_
    refine L_v (opv_move rfl) rfl ?_
    refine L_v (opv_move rfl) rfl ?_
    first
      | refine L_v (opv_indexAddr rfl rfl (by omega)) rfl ?_
      | refine L_v (opv_indexAddrA rfl rfl (by omega)) rfl ?_
    first
      | refine L_v (opv_fieldAddr0 rfl) rfl ?_
      | refine L_v (opv_fieldAddr rfl) rfl ?_
    refine L_v (opv_load rfl (Rd.of_take (S := old W) (hR.rd b o rfl y.1 x 13 _ hxx rfl))) rfl ?_
    first
      | refine L_v (opv_lenL rfl) rfl ?_
      | refine L_v (opv_lenS rfl) rfl ?_
    refine L_v (opv_gtr rfl rfl) rfl ?_
    refine L_nil ?_
    refine K_then ?_
    refine J_cond rfl (fun h2 => ?_) (fun h2 => ?_)
    · refine J_seq ?_
      refine J_region ?_
      refine L_x rfl (opx_call0 (rawake_spec) rfl rfl rfl) (fun _ _ => ?_)
      refine L_emp ?_
      refine L_v (opv_assign rfl) rfl ?_
      refine L_nil ?_
      refine K_then ?_
      refine J_ret ?_
      refine K_then_ret ?_
      refine K_block_ret ?_
      refine K_then_ret ?_
      refine K_then_ret ?_
      refine K_block_ret ?_
      refine K_then_ret ?_
      exact K_ret1 rfl rfl () trivial (rfl) Ent.take
    · refine J_skip ?_
      refine K_then ?_
      refine J_region ?_
      refine L_v (opv_move rfl) rfl ?_
      refine L_v (opv_move rfl) rfl ?_
      refine L_v (opv_move rfl) rfl ?_
      refine L_v (opv_move rfl) rfl ?_
      first
        | refine L_v (opv_indexAddr rfl rfl (by omega)) rfl ?_
        | refine L_v (opv_indexAddrA rfl rfl (by omega)) rfl ?_
      refine L_v (opv_loadN (vs := [.int .i64 x.id, .bool x.more, .int .i64 x.off, .int .i64 x.ttl, .int .i64 x.proto, .int .u8 x.s0, .int .u8 x.s1, .int .u8 x.s2, .int .u8 x.s3, .int .u8 x.d0, .int .u8 x.d1, .int .u8 x.d2, .int .u8 x.d3, .string x.data]) rfl rfl (fun j u hj => Rd.of_take (S := old W) (hR.rd b o rfl y.1 x j u hxx hj))) rfl ?_
      refine L_x rfl (opx_call0 (Put_any tp 64 1000 y.2 y.1 x y.1 hok (by omega) (by decide) (by omega)) rfl rfl rfl) (fun _ _ => ?_)
      refine L_nil ?_
      refine K_block ?_
      refine K_then ?_
      refine J_region ?_
      refine L_v (opv_move rfl) rfl ?_
      first
        | refine L_v (opv_add64 rfl rfl (by omega)) rfl ?_
        | refine L_v (opv_addS rfl rfl (by omega)) rfl ?_
        | refine L_v (opv_add rfl rfl) rfl ?_
      refine L_v (opv_assign rfl) rfl ?_
      refine L_nil ?_
      have hpn := put_now y.2 64 1000 y.1 x
      exact K_loop ((y.1 + 1, (y.2.put 64 1000 y.1 x).2)) ⟨by dsimp only; omega, hok.put 64 1000 y.1 x, by dsimp only; omega⟩ (by dsimp only; omega) ⟨rfl, rfl, rfl, rfl, trivial⟩ Ent.take
  · refine J_exit ?_
    refine K_then_exit ?_
    refine K_then_exit ?_
    refine K_block_here ?_
    refine K_then ?_
    refine J_seq ?_
    refine J_region ?_
    refine L_v (opv_move rfl) rfl ?_
    refine L_x rfl (opx_call0 (Keys_spec tp 64 1000 y.2 (by omega)) rfl rfl rfl) (fun z _ => ?_)
    first
      | refine L_v (opv_lenL rfl) rfl ?_
      | refine L_v (opv_lenS rfl) rfl ?_
    refine L_v (opv_assign rfl) rfl ?_
    refine L_nil ?_
    refine K_then ?_
    refine J_seq ?_
    refine J_region ?_
    refine L_v (opv_move rfl) rfl ?_
    refine L_x rfl (opx_call0 (Dropped_spec tp 64 1000 y.2) rfl rfl rfl) (fun _ _ => ?_)
    refine L_v (opv_assign rfl) rfl ?_
    refine L_nil ?_
    refine K_then ?_
    refine J_seq ?_
    refine J_region ?_
    refine L_v (opv_move rfl) rfl ?_
    refine L_v (opv_loadS rfl) rfl ?_
    refine L_x rfl (opx_call0 (put_alone tp 64 1000 y.2 50 p y.1 hok (by omega) (by decide) (by omega) (tim0 (by omega) (by decide)) h4 h3 (fun b hb => by have := (hok.bg b hb).1; omega)) rfl rfl rfl) (fun _ _ => ?_)
    refine L_v (opv_move rfl) rfl ?_
    refine L_v (opv_extract (v := .agg [.int .i64 p.id, .bool p.more, .int .i64 p.off, .int .i64 p.ttl, .int .i64 p.proto, .int .u8 p.s0, .int .u8 p.s1, .int .u8 p.s2, .int .u8 p.s3, .int .u8 p.d0, .int .u8 p.d1, .int .u8 p.d2, .int .u8 p.d3, .string p.data].toArray) rfl rfl) rfl ?_
    refine L_v (opv_extract rfl rfl) rfl ?_
    refine L_v (opv_extract rfl rfl) rfl ?_
    refine L_x rfl (opx_alloc rfl) (fun b10 _ => ?_)
    refine L_x rfl (opx_store rfl rfl rfl (by simp [Value.oneCell'])) (fun _ _ => ?_)
    refine L_v (opv_assign rfl) rfl ?_
    refine L_v (opv_assign rfl) rfl ?_
    refine L_nil ?_
    refine K_then ?_
    refine J_seq ?_
    refine J_region ?_
    refine L_v (opv_move rfl) rfl ?_
    refine L_v (opv_move rfl) rfl ?_
    refine L_gon rfl rfl rfl ?_
    refine L_v (opv_move rfl) rfl ?_
    refine L_gon rfl rfl rfl ?_
    refine L_v ((opv_eql rfl rfl).bool_t rfl) rfl ?_
    first
      | refine L_v (opv_pick_tt rfl rfl) rfl ?_
      | refine L_v (opv_pick_ff rfl rfl) rfl ?_
      | refine L_v (opv_pick rfl rfl rfl) rfl ?_
    refine L_v (opv_move rfl) rfl ?_
    refine L_gon rfl rfl rfl ?_
    refine L_v (opv_loadS rfl) rfl ?_
    refine L_gon rfl rfl rfl ?_
    refine L_v (opv_loadS rfl) rfl ?_
    refine L_gon rfl rfl rfl ?_
    refine L_v ((opv_eqlF rfl rfl (by simp [Shape, CK.sh]) (by simp [Shape, CK.sh])).bool_t rfl) rfl ?_
    first
      | refine L_v (opv_pick_tt rfl rfl) rfl ?_
      | refine L_v (opv_pick_ff rfl rfl) rfl ?_
      | refine L_v (opv_pick rfl rfl rfl) rfl ?_
    refine L_v (opv_move rfl) rfl ?_
    refine L_gon rfl rfl rfl ?_
    refine L_v (opv_move rfl) rfl ?_
    refine L_gon rfl rfl rfl ?_
    refine L_x rfl (opx_call0 (Keys_spec tp 64 1000 ⟨y.2.q, 50, y.2.dr⟩ (by show y.2.q.length ≤ 1000000; omega)) rfl rfl rfl) (fun z2 _ => ?_)
    refine L_gon rfl rfl rfl ?_
    first
      | refine L_v (opv_lenL rfl) rfl ?_
      | refine L_v (opv_lenS rfl) rfl ?_
    refine L_gon rfl rfl rfl ?_
    refine L_v (opv_move rfl) rfl ?_
    refine L_gon rfl rfl rfl ?_
    refine L_v ((opv_eql rfl rfl).bool_t rfl) rfl ?_
    first
      | refine L_v (opv_pick_tt rfl rfl) rfl ?_
      | refine L_v (opv_pick_ff rfl rfl) rfl ?_
      | refine L_v (opv_pick rfl rfl rfl) rfl ?_
    refine L_v (opv_move rfl) rfl ?_
    refine L_gon rfl rfl rfl ?_
    refine L_v (opv_move rfl) rfl ?_
    refine L_gon rfl rfl rfl ?_
    refine L_x rfl (opx_call0 (Dropped_spec tp 64 1000 ⟨y.2.q, 50, y.2.dr⟩) rfl rfl rfl) (fun _ _ => ?_)
    refine L_gon rfl rfl rfl ?_
    refine L_v (opv_move rfl) rfl ?_
    refine L_gon rfl rfl rfl ?_
    refine L_v ((opv_eql rfl rfl).bool_t rfl) rfl ?_
    first
      | refine L_v (opv_pick_tt rfl rfl) rfl ?_
      | refine L_v (opv_pick_ff rfl rfl) rfl ?_
      | refine L_v (opv_pick rfl rfl rfl) rfl ?_
    refine L_v (opv_move rfl) rfl ?_
    refine L_gon rfl rfl rfl ?_
    refine L_x rfl (opx_call0 (rawake_spec) rfl rfl rfl) (fun _ _ => ?_)
    refine L_emp ?_
    first
      | refine L_v (opv_pick_tt rfl rfl) rfl ?_
      | refine L_v (opv_pick_ff rfl rfl) rfl ?_
      | refine L_v (opv_pick rfl rfl rfl) rfl ?_
    refine L_v (opv_assign rfl) rfl ?_
    refine L_nil ?_
    refine K_then ?_
    refine J_ret ?_
    exact K_ret1 rfl rfl () trivial (rfl) Ent.take


theorem ReasmAlone_law (W : World) (A : Option Addr) (len c : Nat) (xs : List Pk) (p : Pk) (ok : okPk p) (h : ArrIn W encPk 14 A len xs) (hl : len ≤ c) (hc : c ≤ maxLen) : FSpec Try.prog 11 #[.slice A len c, .agg (encPk p).toArray] (old W) (fun _ : Unit => True) (fun _ => .bool true) (fun _ => old W) := by
  have e := h.1
  subst e
  have hn : xs.length ≤ 9223372036854775807 := by unfold maxLen at hc; omega
  by_cases hb : xs.length ≤ 40 ∧ p.data.size ≤ 2000 ∧ p.more = false ∧ p.off = 0
  · exact RA_ok W A c xs p (RdS.old h) hn hb.1 hb.2.1 hb.2.2.1 hb.2.2.2
  · exact RA_bad W A c xs p (RdS.old h) hn hb

end Go.Proofs.Ytjpbpfihacfndaa
namespace Go.Proofs.Ytjpbpfihacfndaa.reasmAlone
open Go.ChangeShapes Go.WideShapes Go.ChangeAt Go.RowKit Go.SLA
open Go.ChangeMaps (open_string shut_string)
set_option linter.unusedVariables false
theorem own : ownKnob Try.prog.godebug = none := by kernel_rfl
theorem laidOut : laidOutB Try.prog = true := by kernel_rfl
set_option maxRecDepth 100000 in
theorem lifted (os : Os) (started : os.Started) (H : Type) (enc : TypeId × Value → H) :
    ReturnsInHanded {} Try.checked os 11 .any (Rows.reasmAloneSpec.pre6 enc Try.prog Try.f11 Rows.reasmAloneRow.domain false) (Rows.reasmAloneSpec.post enc Try.prog Try.f11 false true false false) := by
  refine returnsInHanded_of_change_sized (C := Try.checked) own started (by kernel_rfl) Try.func11
    (ChangeSpec.witness6 (enc := enc) (C := Try.checked) false ⟨#[], #[.slice none 0 0, .agg (encPk pkz).toArray], []⟩ 8 (by kernel_rfl) (by kernel_rfl) (by kernel_rfl) (by kernel_rfl)) ?_
  intro W base args ds gs before hval0 hW hcnd hsz0 _
  have hsz : (DataW.weightsEach Try.prog (Try.f11.params.toList ++ Rows.reasmAloneSpec.plain.varTypes Try.prog) (ds ++ gs)).all (· ≤ reachBytes) = true := hsz0
  have hval : ∀ (j : Nat) t v, Try.f11.params[j]? = some t → args[j]? = some v → Value.okWide Try.prog W .any base t v := hval0
  have hW' := hW
  obtain ⟨p, q, hA0, hV, rfl, hfz, hnd⟩ := hW
  have hA : DataW.TrodAll enc Try.prog W 0 (fun _ => true) true Try.f11.params.toList args.toList ds p := hA0
  rw [Try.params11] at hA hval hsz
  obtain ⟨v0, vs0, d0, ds0, p0, q0, hargs, rfl, rfl, h0, r0⟩ := trodAll_cons hA
  obtain ⟨v1, vs1, d1, ds1, p1, q1, rfl, rfl, rfl, h1, r1⟩ := trodAll_cons r0
  obtain ⟨rfl, rfl, rfl⟩ := trodAll_nil r1
  obtain rfl : args = #[v0, v1] := by cases args; simp_all
  obtain ⟨rfl, rfl⟩ := trodVars_none hV
  have k0 := h0
  have lt0 : ∀ x ∈ p0, x.block < W.heap.size := by obtain ⟨m, hm⟩ := k0; exact DataW.trod_lt m _ _ _ hm
  obtain ⟨A0, len0, cap0, xs0, rfl, hl0, hc0, harr0, hok0⟩ := open_arr (D := 5) (ks := ksPk) (en := encPk) (ok := okPk) Try.underlying28 (by kernel_rfl) (by kernel_rfl) (by decide) (fun cs h => decPk cs h) (hval 0 28 v0 rfl rfl) h0
  have k1 := h1
  have lt1 : ∀ x ∈ p1, x.block < W.heap.size := by obtain ⟨m, hm⟩ := k1; exact DataW.trod_lt m _ _ _ hm
  obtain ⟨l1, rfl, g1⟩ := open_flat (D := 5) (ks := ksPk) (by kernel_rfl) (by kernel_rfl) (hval 1 32 v1 rfl rfl) h1
  obtain ⟨x1, rfl, ok1⟩ := decPk l1 g1
  clear hA0 hval0 hsz0 hsz
  refine (FSpec.law (ReasmAlone_law W A0 len0 cap0 xs0 x1 ok1 harr0 hl0 hc0)).mono fun e W' ⟨he, bel⟩ => ?_
  subst he
  exact ⟨_, rfl, _, _, _, [], _, [], hW', trodAll_mk1 (shut_bool Try.underlying4 _), (trodAll_cons_mk (Below.trod laidOut (by kernel_rfl) (of_decide_eq_true (by kernel_rfl)) k0 bel lt0) (trodAll_cons_mk (Below.trod laidOut (by kernel_rfl) (of_decide_eq_true (by kernel_rfl)) k1 bel lt1) trodAll_mk0)), rfl, bel.frame _, fun h => by cases h⟩
theorem over : Rows.reasmAloneRow.holds Try.pinned (OpenSpec.ofChange Rows.reasmAloneSpec) :=
  OpenClaim.holds_of_wide 11 Try.f11 rfl rfl rfl rfl rfl rfl rfl ⟨rfl, rfl, rfl, rfl, rfl⟩ rfl rfl rfl rfl rfl (by kernel_rfl) Try.func11 (by kernel_rfl)
    (of_decide_eq_true (by kernel_rfl)) (by unfold Func.isWrapper; first | (rw [if_pos (by decide +kernel)]; kernel_rfl) | (rw [if_neg (by decide +kernel)]; exact ⟨rfl, rfl⟩))
    (fun os started H enc _ => lifted os started H enc)
end Go.Proofs.Ytjpbpfihacfndaa.reasmAlone
namespace Go.Proofs.Ytjpbpfihacfndaa
theorem reasmAlone_holds : Rows.ReasmAloneSaid := reasmAlone.over
#print axioms reasmAlone_holds
end Go.Proofs.Ytjpbpfihacfndaa
namespace Go.Proofs.Ytjpbpfihacfndaa
open Go.SLA
end Go.Proofs.Ytjpbpfihacfndaa
