/- The law ReasmPlays of the package pitotlaw09 holds for every input: what each call answers, which packets are begun, and how many were given up, call by call. No condition. -/
import Derived.Test.YtjpbpfihacfndaaRq
import Derived.Test.YtjpbpfihacfndaaRg
import Derived.Test.YtjpbpfihacfndaaH
namespace Go.Proofs.Ytjpbpfihacfndaa
open Go.SLA
set_option maxRecDepth 100000
set_option linter.unusedVariables false
set_option linter.unusedSimpArgs false
attribute [local irreducible] J L K QL Rg FSpec OpV OpX Rd Back
structure Op9 where
  pass : Bool
  now : Int
  id : Int
  more : Bool
  off : Int
  ttl : Int
  proto : Int
  s0 : Int
  s1 : Int
  s2 : Int
  s3 : Int
  d0 : Int
  d1 : Int
  d2 : Int
  d3 : Int
  data : ByteArray
def encOp9 (x : Op9) : List Value := [.bool x.pass, .int .i64 x.now, .int .i64 x.id, .bool x.more, .int .i64 x.off, .int .i64 x.ttl, .int .i64 x.proto, .int .u8 x.s0, .int .u8 x.s1, .int .u8 x.s2, .int .u8 x.s3, .int .u8 x.d0, .int .u8 x.d1, .int .u8 x.d2, .int .u8 x.d3, .string x.data]
def okOp9 (x : Op9) : Prop := (Lit.int .i64 x.now).wf = true ∧ (Lit.int .i64 x.id).wf = true ∧ (Lit.int .i64 x.off).wf = true ∧ (Lit.int .i64 x.ttl).wf = true ∧ (Lit.int .i64 x.proto).wf = true ∧ (Lit.int .u8 x.s0).wf = true ∧ (Lit.int .u8 x.s1).wf = true ∧ (Lit.int .u8 x.s2).wf = true ∧ (Lit.int .u8 x.s3).wf = true ∧ (Lit.int .u8 x.d0).wf = true ∧ (Lit.int .u8 x.d1).wf = true ∧ (Lit.int .u8 x.d2).wf = true ∧ (Lit.int .u8 x.d3).wf = true ∧ x.data.size ≤ maxLen
abbrev ksOp9 : List CK := [.bool, .int .i64, .int .i64, .bool, .int .i64, .int .i64, .int .i64, .int .u8, .int .u8, .int .u8, .int .u8, .int .u8, .int .u8, .int .u8, .int .u8, .str]
theorem encOp9_len (x : Op9) : (encOp9 x).length = 16 := rfl
theorem decOp9 (cs : List Value) (h : Kinds ksOp9 cs) : ∃ x, cs = encOp9 x ∧ okOp9 x := by
  obtain ⟨hl, hk⟩ := h
  obtain ⟨v0, g0, x0, rfl⟩ := hk 0 _ rfl
  obtain ⟨v1, g1, x1, rfl, w1⟩ := hk 1 _ rfl
  obtain ⟨v2, g2, x2, rfl, w2⟩ := hk 2 _ rfl
  obtain ⟨v3, g3, x3, rfl⟩ := hk 3 _ rfl
  obtain ⟨v4, g4, x4, rfl, w4⟩ := hk 4 _ rfl
  obtain ⟨v5, g5, x5, rfl, w5⟩ := hk 5 _ rfl
  obtain ⟨v6, g6, x6, rfl, w6⟩ := hk 6 _ rfl
  obtain ⟨v7, g7, x7, rfl, w7⟩ := hk 7 _ rfl
  obtain ⟨v8, g8, x8, rfl, w8⟩ := hk 8 _ rfl
  obtain ⟨v9, g9, x9, rfl, w9⟩ := hk 9 _ rfl
  obtain ⟨v10, g10, x10, rfl, w10⟩ := hk 10 _ rfl
  obtain ⟨v11, g11, x11, rfl, w11⟩ := hk 11 _ rfl
  obtain ⟨v12, g12, x12, rfl, w12⟩ := hk 12 _ rfl
  obtain ⟨v13, g13, x13, rfl, w13⟩ := hk 13 _ rfl
  obtain ⟨v14, g14, x14, rfl, w14⟩ := hk 14 _ rfl
  obtain ⟨v15, g15, x15, rfl, w15⟩ := hk 15 _ rfl
  match cs, hl with
  | [c0, c1, c2, c3, c4, c5, c6, c7, c8, c9, c10, c11, c12, c13, c14, c15], _ =>
    simp only [List.getElem?_cons_zero, List.getElem?_cons_succ, Option.some.injEq] at g0 g1 g2 g3 g4 g5 g6 g7 g8 g9 g10 g11 g12 g13 g14 g15
    exact ⟨⟨x0, x1, x2, x3, x4, x5, x6, x7, x8, x9, x10, x11, x12, x13, x14, x15⟩, by simp only [encOp9, *], ⟨w1, w2, w4, w5, w6, w7, w8, w9, w10, w11, w12, w13, w14, w15⟩⟩


def Op9.p (x : Op9) : Pk := ⟨x.id, x.more, x.off, x.ttl, x.proto, x.s0, x.s1, x.s2, x.s3, x.d0, x.d1, x.d2, x.d3, x.data⟩
theorem okOp9.a {x : Op9} (h : okOp9 x) : okA x.p := by
  obtain ⟨_, _, _, _, _, h0, h1, h2, h3, g0, g1, g2, g3, _⟩ := h
  constructor
  · intro v hv
    simp only [List.mem_cons, List.not_mem_nil, or_false] at hv
    rcases hv with rfl | rfl | rfl | rfl <;> exact wf8 (by assumption)
  · intro v hv
    simp only [List.mem_cons, List.not_mem_nil, or_false] at hv
    rcases hv with rfl | rfl | rfl | rfl <;> exact wf8 (by assumption)
theorem Plain_any (q : Pk) (okb : Bool) (hq : okA q) (hz : okb = false → q = pkz) : FSpec Try.prog 23 #[.agg [.int .i64 q.id, .bool q.more, .int .i64 q.off, .int .i64 q.ttl, .int .i64 q.proto, .int .u8 q.s0, .int .u8 q.s1, .int .u8 q.s2, .int .u8 q.s3, .int .u8 q.d0, .int .u8 q.d1, .int .u8 q.d2, .int .u8 q.d3, .string q.data].toArray, .bool (!okb)] emp (fun _ : Unit => True) (fun _ => .agg [.int .i64 q.id, .bool q.more, .int .i64 q.off, .int .i64 q.ttl, .int .i64 q.proto, .string (aS q okb), .string (aD q okb), .string q.data].toArray) (fun _ => emp) := by
  cases okb with
  | true => exact Plain05_f q hq
  | false =>
    obtain rfl := hz rfl
    exact Plain05_z
theorem okA_z : okA pkz := by constructor <;> decide
theorem put_q {T : TS} {m wt now : Int} {x q : Pk} {okb : Bool} {cd : Int} {T2 : TS} (h : T.put m wt now x = ((q, okb, cd), T2)) (hx : okA x) : okA q ∧ (okb = false → q = pkz) := by
  by_cases ht : timC T.now now = 0
  · by_cases ho : x.off = 0
    · rcases (Bool.eq_false_or_eq_true x.more).symm with hm | hm
      · rw [put_whole ht ho hm] at h
        cases h
        exact ⟨hx, fun g => by cases g⟩
      · rw [put_begin ht ho hm] at h
        cases h
        exact ⟨okA_z, fun _ => rfl⟩
    · cases hf : bfind (T.pass wt now).q (kyOf x) with
      | none =>
        rw [put_none ht ho hf] at h
        cases h
        exact ⟨okA_z, fun _ => rfl⟩
      | some b =>
        rw [put_some ht ho hf] at h
        by_cases hs : sndC x b.data.size = 0
        · rw [if_neg (fun n => n hs)] at h
          by_cases hm : x.more = true
          · rw [if_pos hm] at h
            cases h
            exact ⟨okA_z, fun _ => rfl⟩
          · rw [if_neg hm] at h
            cases h
            exact ⟨hx, fun g => by cases g⟩
        · rw [if_pos hs] at h
          cases h
          exact ⟨okA_z, fun _ => rfl⟩
  · rw [put_bad ht] at h
    cases h
    exact ⟨okA_z, fun _ => rfl⟩
/-- Ours and the document's table hold the same. -/
def Rel (n : Nat) (T : TS) (B : List Bgr) : Prop := TOk n T ∧ Srt T ∧ qB B = T.q ∧ ∀ b ∈ B, okA b.p
theorem Rel.pass {n : Nat} {T : TS} {B B' : List Bgr} {wt now : Int} (h : Rel n T B) (h2 : qB B' = (passT T wt now).q ∧ ∀ b ∈ B', okA b.p) : Rel (n + 1) (passT T wt now) B' := by
  refine ⟨?_, ?_, h2.1, h2.2⟩
  · unfold passT
    split
    · rename_i g; exact (h.1.pass g).more
    · exact h.1.more
  · unfold passT
    split
    · rename_i g; exact h.2.1.pass g
    · exact h.2.1
theorem Rel.put {n : Nat} {T T2 : TS} {B B' : List Bgr} {m wt now : Int} {x q : Pk} {okb : Bool} {cd : Int} (h : Rel n T B) (hp : T.put m wt now x = ((q, okb, cd), T2)) (h2 : qB B' = T2.q ∧ ∀ b ∈ B', okA b.p) : Rel (n + 1) T2 B' := by
  have h3 := h.1.put m wt now x
  have h4 := h.2.1.put m wt now x
  rw [hp] at h3 h4
  exact ⟨h3, h4, h2.1, h2.2⟩
theorem Pass_any (tp : Nat) (m wt : Int) (T : TS) (now : Int) (n : Nat) (hT : TOk n T) (hn : n ≤ 1000000) (hwt : 0 ≤ wt ∧ wt ≤ 1125899906842624) : FSpec Try.prog 30 #[.pointer (some (ad tp 0)), .int .i64 now] (TabP tp m wt T) (fun _ : Unit => True) (fun _ => .int .i64 (timC T.now now)) (fun _ => TabP tp m wt (passT T wt now)) := by
  unfold passT
  by_cases h : timC T.now now = 0
  · rw [if_pos h, h]; exact Pass_ok tp m wt T now h n hT hn hwt
  · rw [if_neg h]; exact Pass_bad tp m wt T now h

theorem Plain_ky (ky : Ky) (h : okA (⟨ky.id, false, 0, 0, ky.proto, ky.s0, ky.s1, ky.s2, ky.s3, ky.d0, ky.d1, ky.d2, ky.d3, ⟨#[]⟩⟩ : Pk)) : FSpec Try.prog 23 #[.agg [.int .i64 ky.id, .bool false, .int .i64 0, .int .i64 0, .int .i64 ky.proto, .int .u8 ky.s0, .int .u8 ky.s1, .int .u8 ky.s2, .int .u8 ky.s3, .int .u8 ky.d0, .int .u8 ky.d1, .int .u8 ky.d2, .int .u8 ky.d3, .string ⟨#[]⟩].toArray, .bool false] emp (fun _ : Unit => True) (fun _ => .agg [.int .i64 ky.id, .bool false, .int .i64 0, .int .i64 0, .int .i64 ky.proto, .string (bytesL [ky.s0, ky.s1, ky.s2, ky.s3]), .string (bytesL [ky.d0, ky.d1, ky.d2, ky.d3]), .string ⟨#[]⟩].toArray) (fun _ => emp) := Plain05_f (⟨ky.id, false, 0, 0, ky.proto, ky.s0, ky.s1, ky.s2, ky.s3, ky.d0, ky.d1, ky.d2, ky.d3, ⟨#[]⟩⟩ : Pk) h

theorem RY_bad (W : World) (m wt : Int) (A : Option Addr) (c : Nat) (xs : List Op9) (hR : RdS (old W) encOp9 16 A xs) (hx : xs.length ≤ 9223372036854775807) (hb : ¬ (1 ≤ m ∧ m ≤ 64 ∧ 0 ≤ wt ∧ wt ≤ 1125899906842624)) : FSpec Try.prog 8 #[.int .i64 m, .int .i64 wt, .slice A xs.length c] (old W) (fun _ : Unit => True) (fun _ => .bool true) (fun _ => old W) := by
  refine FSpec.enter' Try.func8 rfl Try.ntmps8 rfl fun σ F => ?_
  refine J_seq ?_
  refine J_region ?_
  refine L_v (opv_assign rfl) rfl ?_
  refine L_nil ?_
  refine K_then ?_
  refine J_seq ?_
  refine J_region ?_
  refine L_v (opv_move rfl) rfl ?_
  refine L_v (opv_move rfl) rfl ?_
  refine L_x rfl (opx_call0 (New_err m wt hb) rfl rfl rfl) (fun _ _ => ?_)
  refine L_emp ?_
  refine L_v (opv_move rfl) rfl ?_
  refine L_v (opv_extract rfl rfl) rfl ?_
  refine L_v (opv_extract rfl rfl) rfl ?_
  refine L_v (opv_assign rfl) rfl ?_
  refine L_v (opv_assign rfl) rfl ?_
  refine L_nil ?_
  refine K_then ?_
  refine J_seq ?_
  refine J_region ?_
  refine L_v (opv_move rfl) rfl ?_
  refine L_v (opv_move rfl) rfl ?_
  refine L_x rfl (opx_call0 (RNew_err m wt hb) rfl rfl rfl) (fun _ _ => ?_)
  refine L_emp ?_
  refine L_v (opv_move rfl) rfl ?_
  refine L_v (opv_extract rfl rfl) rfl ?_
  refine L_v (opv_extract rfl rfl) rfl ?_
  refine L_v (opv_assign rfl) rfl ?_
  refine L_v (opv_assign rfl) rfl ?_
  refine L_nil ?_
  refine K_then ?_
  refine J_seq ?_
  refine J_seq ?_
  refine J_region ?_
  refine L_v (opv_move rfl) rfl ?_
  refine L_v (opv_move rfl) rfl ?_
  refine L_v ((opv_neq rfl rfl).bool_f (fun n => n rfl)) rfl ?_
  refine L_v (opv_move rfl) rfl ?_
  refine L_gon rfl rfl rfl ?_
  refine L_v (opv_move rfl) rfl ?_
  refine L_gon rfl rfl rfl ?_
  refine L_v (opv_eqlNil rfl rfl) rfl ?_
  refine L_gon rfl rfl rfl ?_
  refine L_v (opv_move rfl) rfl ?_
  refine L_gon rfl rfl rfl ?_
  refine L_v (opv_eqlNil rfl rfl) rfl ?_
  refine L_gon rfl rfl rfl ?_
  refine L_v ((opv_neqB rfl rfl).as (v' := .bool false) rfl) rfl ?_
  first
    | refine L_v (opv_pick_tt rfl rfl) rfl ?_
    | refine L_v (opv_pick_ff rfl rfl) rfl ?_
    | refine L_v (opv_pick rfl rfl rfl) rfl ?_
  refine L_nil ?_
  refine K_then ?_
  refine J_cond_false rfl ?_
  refine J_skip ?_
  refine K_then ?_
  refine J_seq ?_
  refine J_seq ?_
  refine J_region ?_
  refine L_v (opv_move rfl) rfl ?_
  refine L_v (opv_eqlNil rfl rfl) rfl ?_
  refine L_nil ?_
  refine K_then ?_
  refine J_cond_true rfl ?_
  refine J_seq ?_
  refine J_region ?_
  refine L_x rfl (opx_call0 (rawake_spec) rfl rfl rfl) (fun _ _ => ?_)
  refine L_emp ?_
  refine L_v (opv_assign rfl) rfl ?_
  refine L_nil ?_
  refine K_then ?_
  refine J_ret ?_
  refine K_then_ret ?_
  exact K_ret1 rfl rfl () trivial (rfl) Ent.take

set_option maxHeartbeats 2000000 in
theorem RY_ok (W : World) (m wt : Int) (A : Option Addr) (c : Nat) (xs : List Op9) (hR : RdS (old W) encOp9 16 A xs) (hx : xs.length ≤ 9223372036854775807) (okx : ∀ x ∈ xs, okOp9 x) (hm1 : 1 ≤ m) (hm2 : m ≤ 64) (hw1 : 0 ≤ wt) (hw2 : wt ≤ 1125899906842624) : FSpec Try.prog 8 #[.int .i64 m, .int .i64 wt, .slice A xs.length c] (old W) (fun _ : Unit => True) (fun _ => .bool true) (fun _ => old W) := by
  refine FSpec.enter' Try.func8 rfl Try.ntmps8 rfl fun σ F => ?_
  refine J_seq ?_
  refine J_region ?_
  refine L_v (opv_assign rfl) rfl ?_
  refine L_nil ?_
  refine K_then ?_
  refine J_seq ?_
  refine J_region ?_
  refine L_v (opv_move rfl) rfl ?_
  refine L_v (opv_move rfl) rfl ?_
  refine L_x rfl (opx_call0 (New_okE m wt ⟨hm1, hm2⟩ ⟨hw1, hw2⟩) rfl rfl rfl) (fun tp _ => ?_)
  refine L_v (opv_move rfl) rfl ?_
  refine L_v (opv_extract rfl rfl) rfl ?_
  refine L_v (opv_extract rfl rfl) rfl ?_
  refine L_v (opv_assign rfl) rfl ?_
  refine L_v (opv_assign rfl) rfl ?_
  refine L_nil ?_
  refine K_then ?_
  refine J_seq ?_
  refine J_region ?_
  refine L_v (opv_move rfl) rfl ?_
  refine L_v (opv_move rfl) rfl ?_
  refine L_x rfl (opx_call0 (RNew_ok m wt ⟨hm1, hm2⟩ ⟨hw1, hw2⟩) rfl rfl rfl) (fun rp _ => ?_)
  refine L_v (opv_move rfl) rfl ?_
  refine L_v (opv_extract rfl rfl) rfl ?_
  refine L_v (opv_extract rfl rfl) rfl ?_
  refine L_v (opv_assign rfl) rfl ?_
  refine L_v (opv_assign rfl) rfl ?_
  refine L_nil ?_
  refine K_then ?_
  refine J_seq ?_
  refine J_seq ?_
  refine J_region ?_
  refine L_v (opv_move rfl) rfl ?_
  refine L_v (opv_move rfl) rfl ?_
  refine L_v ((opv_neq rfl rfl).bool_f (fun n => n rfl)) rfl ?_
  refine L_v (opv_move rfl) rfl ?_
  refine L_gon rfl rfl rfl ?_
  refine L_v (opv_move rfl) rfl ?_
  refine L_gon rfl rfl rfl ?_
  refine L_v (opv_eqlNil rfl rfl) rfl ?_
  refine L_gon rfl rfl rfl ?_
  refine L_v (opv_move rfl) rfl ?_
  refine L_gon rfl rfl rfl ?_
  refine L_v (opv_eqlNil rfl rfl) rfl ?_
  refine L_gon rfl rfl rfl ?_
  refine L_v ((opv_neqB rfl rfl).as (v' := .bool false) rfl) rfl ?_
  first
    | refine L_v (opv_pick_tt rfl rfl) rfl ?_
    | refine L_v (opv_pick_ff rfl rfl) rfl ?_
    | refine L_v (opv_pick rfl rfl rfl) rfl ?_
  refine L_nil ?_
  refine K_then ?_
  refine J_cond_false rfl ?_
  refine J_skip ?_
  refine K_then ?_
  refine J_seq ?_
  refine J_seq ?_
  refine J_region ?_
  refine L_v (opv_move rfl) rfl ?_
  refine L_v (opv_eqlNil rfl rfl) rfl ?_
  refine L_nil ?_
  refine K_then ?_
  refine J_cond_false rfl ?_
  refine J_skip ?_
  refine K_then ?_
  refine J_seq ?_
  refine J_seq ?_
  refine J_imp (sep (TabP tp m wt (⟨[], 0, 0⟩ : TS)) (sep (Own 73 10 (.slice none 0 0) 0 []) (sep (cel rp [.slice none 0 0, .int .i64 m, .int .i64 wt, .int .i64 0, .int .i64 0] 67) (sep (old W) (F))))) (Ent.trans (Ent.trans (Ent.take (Q := (sep (TabP tp m wt (⟨[], 0, 0⟩ : TS)) (sep (cel rp [.slice none 0 0, .int .i64 m, .int .i64 wt, .int .i64 0, .int .i64 0] 67) (sep (old W) (F)))))) (Ent.of (emp_sep _).symm)) (Ent.trans ((Own.nil 73 10).frame _) (Ent.of (sep_left_comm _ _ _)))) ?_
  refine J_region ?_
  refine L_v (opv_assign rfl) rfl ?_
  refine L_nil ?_
  refine K_then ?_
  refine J_block ?_
  refine J_loop (X := Nat × TS × List Bgr × (Option Addr × Nat)) (fun y => [(2, .slice A xs.length c), (7, .pointer (some (ad tp 0))), (9, .pointer (some (ad rp 0))), (11, .int .i64 y.1)]) (fun y => (sep (TabP tp m wt y.2.1) (sep (Own 73 10 (.slice y.2.2.2.1 y.2.2.1.length y.2.2.2.2) y.2.2.1.length (y.2.2.1.flatMap encB)) (sep (cel rp [.slice y.2.2.2.1 y.2.2.1.length y.2.2.2.2, .int .i64 m, .int .i64 wt, .int .i64 y.2.1.now, .int .i64 y.2.1.dr] 67) (sep (old W) (F)))))) (fun y => y.1 ≤ xs.length ∧ y.1 ≤ 100 ∧ Rel y.1 y.2.1 y.2.2.1) (fun y => xs.length - y.1) ((0, ⟨[], 0, 0⟩, [], (none, 0))) ⟨Nat.zero_le _, Nat.zero_le _, tok0, ⟨List.Pairwise.nil, fun b hb => by cases hb⟩, rfl, fun b hb => by cases hb⟩ ⟨rfl, rfl, rfl, rfl, trivial⟩ (Ent.take (Q := (sep (TabP tp m wt (⟨[], 0, 0⟩ : TS)) (sep (Own 73 10 (.slice none 0 0) 0 []) (sep (cel rp [.slice none 0 0, .int .i64 m, .int .i64 wt, .int .i64 0, .int .i64 0] 67) (sep (old W) (F))))))) (fun y hy => ?_)
  obtain ⟨hk, hk100, hrel⟩ := hy
  obtain ⟨hT, hS, hq, hB⟩ := hrel
  have hrel : Rel y.1 y.2.1 y.2.2.1 := ⟨hT, hS, hq, hB⟩
  refine J_seq ?_
  refine J_seq ?_
  refine J_region ?_
  refine L_v (opv_move rfl) rfl ?_
  refine L_v (opv_move rfl) rfl ?_
  first
    | refine L_v (opv_lenL rfl) rfl ?_
    | refine L_v (opv_lenS rfl) rfl ?_
  refine L_v (opv_lss rfl rfl) rfl ?_
  refine L_v (opv_move rfl) rfl ?_
  refine L_gt rfl rfl (fun h1 => ?_) (fun h1 => ?_) (fun _ h => by cases h; rfl)
  · refine L_v (opv_move rfl) rfl ?_
    refine L_gt_on h1 rfl rfl ?_
    refine L_v (opv_lss rfl rfl) rfl ?_
    refine L_v (opv_pick_t rfl h1 rfl) rfl ?_
    refine L_nil ?_
    refine K_then ?_
    refine J_cond rfl (fun h2 => ?_) (fun h2 => ?_)
    · have hkl : y.1 < xs.length := by omega
      obtain ⟨x, hxx⟩ : ∃ x, xs[y.1]? = some x := ⟨_, List.getElem?_eq_getElem hkl⟩
      obtain ⟨b, o, rfl⟩ := hR.nonnil y.1 hkl
      have hxA := (okx x (List.mem_of_getElem? hxx)).a
      refine J_skip ?_
      refine K_then ?_
      refine J_seq ?_
      refine J_block ?_
      refine J_seq ?_
      refine J_region ?_
      refine L_v (opv_move rfl) rfl ?_
      refine L_v (opv_move rfl) rfl ?_
      first
        | refine L_v (opv_indexAddr rfl rfl (by omega)) rfl ?_
        | refine L_v (opv_indexAddrA rfl rfl (by omega)) rfl ?_
      refine L_v (opv_loadN (vs := [.bool x.pass, .int .i64 x.now, .int .i64 x.id, .bool x.more, .int .i64 x.off, .int .i64 x.ttl, .int .i64 x.proto, .int .u8 x.s0, .int .u8 x.s1, .int .u8 x.s2, .int .u8 x.s3, .int .u8 x.d0, .int .u8 x.d1, .int .u8 x.d2, .int .u8 x.d3, .string x.data]) rfl rfl (fun j u hj => Rd.of_take (S := old W) (hR.rd b o rfl y.1 x j u hxx hj))) rfl ?_
      refine L_x rfl (opx_alloc rfl) (fun b12 _ => ?_)
      refine L_x rfl (opx_store rfl rfl rfl (by simp [Value.oneCell'])) (fun _ _ => ?_)
      refine L_nil ?_
      refine K_then ?_
      refine J_seq ?_
      refine J_seq ?_
      refine J_region ?_
      first
        | refine L_v (opv_fieldAddr0 rfl) rfl ?_
        | refine L_v (opv_fieldAddr rfl) rfl ?_
      first
        | refine L_v (opv_fieldAddr0 rfl) rfl ?_
        | refine L_v (opv_fieldAddr rfl) rfl ?_
      refine L_v (opv_load rfl (Rd.look rfl)) rfl ?_
      first
        | refine L_v (opv_lenL rfl) rfl ?_
        | refine L_v (opv_lenS rfl) rfl ?_
      refine L_v (opv_gtr rfl rfl) rfl ?_
      refine L_nil ?_
      refine K_then ?_
      refine J_cond rfl (fun h3 => ?_) (fun h3 => ?_)
      · refine J_seq ?_
        refine J_region ?_
        refine L_x rfl (opx_call0 (rawake_spec) rfl rfl rfl) (fun _ _ => ?_)
        refine L_emp ?_
        refine L_v (opv_assign rfl) rfl ?_
        refine L_nil ?_
        refine K_then ?_
        refine J_ret ?_
        refine K_then_ret ?_
        refine K_block_ret ?_
        refine K_then_ret ?_
        refine K_then_ret ?_
        refine K_block_ret ?_
        refine K_then_ret ?_
        exact K_ret1 rfl rfl () trivial (rfl) Ent.take
      · refine J_skip ?_
        refine K_then ?_
        refine J_cut (X := TS × List Bgr × (Option Addr × Nat)) (fun v => [(2, .slice (some (ad b o)) xs.length c), (7, .pointer (some (ad tp 0))), (9, .pointer (some (ad rp 0))), (11, .int .i64 y.1)]) (fun v => (sep (TabP tp m wt v.1) (sep (Own 73 10 (.slice v.2.2.1 v.2.1.length v.2.2.2) v.2.1.length (v.2.1.flatMap encB)) (sep (cel rp [.slice v.2.2.1 v.2.1.length v.2.2.2, .int .i64 m, .int .i64 wt, .int .i64 v.1.now, .int .i64 v.1.dr] 67) (sep (old W) (F)))))) (fun v => Rel (y.1 + 1) v.1 v.2.1) ?_ (fun v hv => ?_)
        · refine J_seq ?_
          refine J_region ?_
          first
            | refine L_v (opv_fieldAddr0 rfl) rfl ?_
            | refine L_v (opv_fieldAddr rfl) rfl ?_
          refine L_v ((opv_load rfl (Rd.look rfl)).as (v' := .bool (decide (x.pass = true))) (by simp)) rfl ?_
          refine L_nil ?_
          refine K_then ?_
          refine J_cond rfl (fun h4 => ?_) (fun h4 => ?_)
          · refine J_seq ?_
            refine J_steps (cel b12 [.bool x.pass, .int .i64 x.now, .int .i64 x.id, .bool x.more, .int .i64 x.off, .int .i64 x.ttl, .int .i64 x.proto, .int .u8 x.s0, .int .u8 x.s1, .int .u8 x.s2, .int .u8 x.s3, .int .u8 x.d0, .int .u8 x.d1, .int .u8 x.d2, .int .u8 x.d3, .string x.data] 57) (cel b12 [.bool x.pass, .int .i64 x.now, .int .i64 x.id, .bool x.more, .int .i64 x.off, .int .i64 x.ttl, .int .i64 x.proto, .int .u8 x.s0, .int .u8 x.s1, .int .u8 x.s2, .int .u8 x.s3, .int .u8 x.d0, .int .u8 x.d1, .int .u8 x.d2, .int .u8 x.d3, .string x.data] 57) [] Try.mixed ?_
            refine R_pure 0 rfl (by kernel_rfl) (by kernel_rfl) (by kernel_rfl) (by kernel_rfl) (.inr ⟨_, Take.eq (A := cel b12 [.bool x.pass, .int .i64 x.now, .int .i64 x.id, .bool x.more, .int .i64 x.off, .int .i64 x.ttl, .int .i64 x.proto, .int .u8 x.s0, .int .u8 x.s1, .int .u8 x.s2, .int .u8 x.s3, .int .u8 x.d0, .int .u8 x.d1, .int .u8 x.d2, .int .u8 x.d3, .string x.data] 57)⟩) (opv_move rfl) rfl ?_
            first
              | refine R_pure 1 rfl (by kernel_rfl) (by kernel_rfl) (by kernel_rfl) (by kernel_rfl) (.inr ⟨_, Take.eq (A := cel b12 [.bool x.pass, .int .i64 x.now, .int .i64 x.id, .bool x.more, .int .i64 x.off, .int .i64 x.ttl, .int .i64 x.proto, .int .u8 x.s0, .int .u8 x.s1, .int .u8 x.s2, .int .u8 x.s3, .int .u8 x.d0, .int .u8 x.d1, .int .u8 x.d2, .int .u8 x.d3, .string x.data] 57)⟩) (opv_fieldAddr0 rfl) rfl ?_
              | refine R_pure 1 rfl (by kernel_rfl) (by kernel_rfl) (by kernel_rfl) (by kernel_rfl) (.inr ⟨_, Take.eq (A := cel b12 [.bool x.pass, .int .i64 x.now, .int .i64 x.id, .bool x.more, .int .i64 x.off, .int .i64 x.ttl, .int .i64 x.proto, .int .u8 x.s0, .int .u8 x.s1, .int .u8 x.s2, .int .u8 x.s3, .int .u8 x.d0, .int .u8 x.d1, .int .u8 x.d2, .int .u8 x.d3, .string x.data] 57)⟩) (opv_fieldAddr rfl) rfl ?_
            refine R_take 2 rfl (by kernel_rfl) (by kernel_rfl) (by kernel_rfl) (by kernel_rfl) (by kernel_rfl) (opv_load rfl (Rd.look rfl)) rfl ?_
            refine R_pure 4 rfl (by kernel_rfl) (by kernel_rfl) (by kernel_rfl) (by kernel_rfl) (.inr ⟨_, Take.eq (A := cel b12 [.bool x.pass, .int .i64 x.now, .int .i64 x.id, .bool x.more, .int .i64 x.off, .int .i64 x.ttl, .int .i64 x.proto, .int .u8 x.s0, .int .u8 x.s1, .int .u8 x.s2, .int .u8 x.s3, .int .u8 x.d0, .int .u8 x.d1, .int .u8 x.d2, .int .u8 x.d3, .string x.data] 57)⟩) (opv_move rfl) rfl ?_
            first
              | refine R_pure 5 rfl (by kernel_rfl) (by kernel_rfl) (by kernel_rfl) (by kernel_rfl) (.inr ⟨_, Take.eq (A := cel b12 [.bool x.pass, .int .i64 x.now, .int .i64 x.id, .bool x.more, .int .i64 x.off, .int .i64 x.ttl, .int .i64 x.proto, .int .u8 x.s0, .int .u8 x.s1, .int .u8 x.s2, .int .u8 x.s3, .int .u8 x.d0, .int .u8 x.d1, .int .u8 x.d2, .int .u8 x.d3, .string x.data] 57)⟩) (opv_fieldAddr0 rfl) rfl ?_
              | refine R_pure 5 rfl (by kernel_rfl) (by kernel_rfl) (by kernel_rfl) (by kernel_rfl) (.inr ⟨_, Take.eq (A := cel b12 [.bool x.pass, .int .i64 x.now, .int .i64 x.id, .bool x.more, .int .i64 x.off, .int .i64 x.ttl, .int .i64 x.proto, .int .u8 x.s0, .int .u8 x.s1, .int .u8 x.s2, .int .u8 x.s3, .int .u8 x.d0, .int .u8 x.d1, .int .u8 x.d2, .int .u8 x.d3, .string x.data] 57)⟩) (opv_fieldAddr rfl) rfl ?_
            refine R_take 6 rfl (by kernel_rfl) (by kernel_rfl) (by kernel_rfl) (by kernel_rfl) (by kernel_rfl) (opv_load rfl (Rd.look rfl)) rfl ?_
            refine R_only 3 rfl rfl (by kernel_rfl) (opx_call0 (Pass_any tp m wt y.2.1 x.now y.1 hT (by omega) ⟨hw1, hw2⟩) rfl rfl rfl) (fun _ _ => ⟨_, Take.eq (A := cel b12 [.bool x.pass, .int .i64 x.now, .int .i64 x.id, .bool x.more, .int .i64 x.off, .int .i64 x.ttl, .int .i64 x.proto, .int .u8 x.s0, .int .u8 x.s1, .int .u8 x.s2, .int .u8 x.s3, .int .u8 x.d0, .int .u8 x.d1, .int .u8 x.d2, .int .u8 x.d3, .string x.data] 57)⟩) (.inr fun _ _ => ⟨_, Take.eq (A := cel b12 [.bool x.pass, .int .i64 x.now, .int .i64 x.id, .bool x.more, .int .i64 x.off, .int .i64 x.ttl, .int .i64 x.proto, .int .u8 x.s0, .int .u8 x.s1, .int .u8 x.s2, .int .u8 x.s3, .int .u8 x.d0, .int .u8 x.d1, .int .u8 x.d2, .int .u8 x.d3, .string x.data] 57)⟩) (fun _ _ => ?_)
            refine R_only 7 rfl rfl (by kernel_rfl) (opx_call0 (RPass_any rp y.2.2.2.1 y.2.2.2.2 y.2.2.1 m wt y.2.1 x.now y.1 hT (by omega) hS hq hB ⟨hw1, hw2⟩) rfl rfl rfl) (fun _ _ => ⟨_, Take.eq (A := cel b12 [.bool x.pass, .int .i64 x.now, .int .i64 x.id, .bool x.more, .int .i64 x.off, .int .i64 x.ttl, .int .i64 x.proto, .int .u8 x.s0, .int .u8 x.s1, .int .u8 x.s2, .int .u8 x.s3, .int .u8 x.d0, .int .u8 x.d1, .int .u8 x.d2, .int .u8 x.d3, .string x.data] 57)⟩) (.inr fun _ _ => ⟨_, Take.eq (A := cel b12 [.bool x.pass, .int .i64 x.now, .int .i64 x.id, .bool x.more, .int .i64 x.off, .int .i64 x.ttl, .int .i64 x.proto, .int .u8 x.s0, .int .u8 x.s1, .int .u8 x.s2, .int .u8 x.s3, .int .u8 x.d0, .int .u8 x.d1, .int .u8 x.d2, .int .u8 x.d3, .string x.data] 57)⟩) (fun rB hrB => ?_)
            refine R_pure 8 rfl (by kernel_rfl) (by kernel_rfl) (by kernel_rfl) (by kernel_rfl) (.inr ⟨_, Take.eq (A := cel b12 [.bool x.pass, .int .i64 x.now, .int .i64 x.id, .bool x.more, .int .i64 x.off, .int .i64 x.ttl, .int .i64 x.proto, .int .u8 x.s0, .int .u8 x.s1, .int .u8 x.s2, .int .u8 x.s3, .int .u8 x.d0, .int .u8 x.d1, .int .u8 x.d2, .int .u8 x.d3, .string x.data] 57)⟩) ((opv_neq rfl rfl).bool_f (fun n => n rfl)) rfl ?_
            refine R_done (by kernel_rfl) ?_
            refine K_then ?_
            refine J_cond_false rfl ?_
            refine J_skip ?_
            exact K_cut (passT y.2.1 wt x.now, rB.1, rB.2) (hrel.pass hrB) ⟨rfl, rfl, rfl, rfl, trivial⟩ Ent.take
          · refine J_seq ?_
            obtain ⟨q, okb, cd, T2, hput⟩ : ∃ q okb cd T2, y.2.1.put m wt x.now x.p = ((q, okb, cd), T2) := ⟨_, _, _, _, rfl⟩
            have hsp : FSpec Try.prog 32 #[.pointer (some (ad tp 0)), .int .i64 x.now, .agg [.int .i64 x.id, .bool x.more, .int .i64 x.off, .int .i64 x.ttl, .int .i64 x.proto, .int .u8 x.s0, .int .u8 x.s1, .int .u8 x.s2, .int .u8 x.s3, .int .u8 x.d0, .int .u8 x.d1, .int .u8 x.d2, .int .u8 x.d3, .string x.data].toArray] (TabP tp m wt y.2.1) (fun _ : Unit => True) (fun _ => .tuple #[.agg [.int .i64 q.id, .bool q.more, .int .i64 q.off, .int .i64 q.ttl, .int .i64 q.proto, .int .u8 q.s0, .int .u8 q.s1, .int .u8 q.s2, .int .u8 q.s3, .int .u8 q.d0, .int .u8 q.d1, .int .u8 q.d2, .int .u8 q.d3, .string q.data].toArray, .bool okb, .int .i64 cd]) (fun _ => TabP tp m wt T2) := by
                have := Put_any tp m wt y.2.1 x.now x.p y.1 hT (by omega) ⟨hw1, hw2⟩ (by show x.data.size ≤ _; omega)
                rw [hput] at this
                exact this
            obtain ⟨hqA, hqz⟩ := put_q hput hxA
            refine J_region ?_
            refine L_v (opv_move rfl) rfl ?_
            first
              | refine L_v (opv_fieldAddr0 rfl) rfl ?_
              | refine L_v (opv_fieldAddr rfl) rfl ?_
            refine L_v (opv_load rfl (Rd.look rfl)) rfl ?_
            first
              | refine L_v (opv_fieldAddr0 rfl) rfl ?_
              | refine L_v (opv_fieldAddr rfl) rfl ?_
            refine L_v (opv_loadS rfl) rfl ?_
            refine L_x rfl (opx_call0 (hsp) rfl rfl rfl) (fun _ _ => ?_)
            refine L_v (opv_move rfl) rfl ?_
            refine L_v (opv_extract (v := .agg [.int .i64 q.id, .bool q.more, .int .i64 q.off, .int .i64 q.ttl, .int .i64 q.proto, .int .u8 q.s0, .int .u8 q.s1, .int .u8 q.s2, .int .u8 q.s3, .int .u8 q.d0, .int .u8 q.d1, .int .u8 q.d2, .int .u8 q.d3, .string q.data].toArray) rfl rfl) rfl ?_
            refine L_v (opv_extract rfl rfl) rfl ?_
            refine L_v (opv_extract rfl rfl) rfl ?_
            refine L_x rfl (opx_alloc rfl) (fun b13 _ => ?_)
            refine L_x rfl (opx_store rfl rfl rfl (by simp [Value.oneCell'])) (fun _ _ => ?_)
            refine L_v (opv_assign rfl) rfl ?_
            refine L_v (opv_assign rfl) rfl ?_
            refine L_nil ?_
            refine K_then ?_
            refine J_seq ?_
            refine J_steps (cel b12 [.bool x.pass, .int .i64 x.now, .int .i64 x.id, .bool x.more, .int .i64 x.off, .int .i64 x.ttl, .int .i64 x.proto, .int .u8 x.s0, .int .u8 x.s1, .int .u8 x.s2, .int .u8 x.s3, .int .u8 x.d0, .int .u8 x.d1, .int .u8 x.d2, .int .u8 x.d3, .string x.data] 57) (cel b12 [.bool x.pass, .int .i64 x.now, .int .i64 x.id, .bool x.more, .int .i64 x.off, .int .i64 x.ttl, .int .i64 x.proto, .int .u8 x.s0, .int .u8 x.s1, .int .u8 x.s2, .int .u8 x.s3, .int .u8 x.d0, .int .u8 x.d1, .int .u8 x.d2, .int .u8 x.d3, .string x.data] 57) [] Try.mixed ?_
            refine R_pure 0 rfl (by kernel_rfl) (by kernel_rfl) (by kernel_rfl) (by kernel_rfl) (.inr ⟨_, Take.eq (A := cel b12 [.bool x.pass, .int .i64 x.now, .int .i64 x.id, .bool x.more, .int .i64 x.off, .int .i64 x.ttl, .int .i64 x.proto, .int .u8 x.s0, .int .u8 x.s1, .int .u8 x.s2, .int .u8 x.s3, .int .u8 x.d0, .int .u8 x.d1, .int .u8 x.d2, .int .u8 x.d3, .string x.data] 57)⟩) (opv_move rfl) rfl ?_
            first
              | refine R_pure 1 rfl (by kernel_rfl) (by kernel_rfl) (by kernel_rfl) (by kernel_rfl) (.inr ⟨_, Take.eq (A := cel b12 [.bool x.pass, .int .i64 x.now, .int .i64 x.id, .bool x.more, .int .i64 x.off, .int .i64 x.ttl, .int .i64 x.proto, .int .u8 x.s0, .int .u8 x.s1, .int .u8 x.s2, .int .u8 x.s3, .int .u8 x.d0, .int .u8 x.d1, .int .u8 x.d2, .int .u8 x.d3, .string x.data] 57)⟩) (opv_fieldAddr0 rfl) rfl ?_
              | refine R_pure 1 rfl (by kernel_rfl) (by kernel_rfl) (by kernel_rfl) (by kernel_rfl) (.inr ⟨_, Take.eq (A := cel b12 [.bool x.pass, .int .i64 x.now, .int .i64 x.id, .bool x.more, .int .i64 x.off, .int .i64 x.ttl, .int .i64 x.proto, .int .u8 x.s0, .int .u8 x.s1, .int .u8 x.s2, .int .u8 x.s3, .int .u8 x.d0, .int .u8 x.d1, .int .u8 x.d2, .int .u8 x.d3, .string x.data] 57)⟩) (opv_fieldAddr rfl) rfl ?_
            refine R_take 2 rfl (by kernel_rfl) (by kernel_rfl) (by kernel_rfl) (by kernel_rfl) (by kernel_rfl) (opv_load rfl (Rd.look rfl)) rfl ?_
            first
              | refine R_pure 3 rfl (by kernel_rfl) (by kernel_rfl) (by kernel_rfl) (by kernel_rfl) (.inr ⟨_, Take.eq (A := cel b12 [.bool x.pass, .int .i64 x.now, .int .i64 x.id, .bool x.more, .int .i64 x.off, .int .i64 x.ttl, .int .i64 x.proto, .int .u8 x.s0, .int .u8 x.s1, .int .u8 x.s2, .int .u8 x.s3, .int .u8 x.d0, .int .u8 x.d1, .int .u8 x.d2, .int .u8 x.d3, .string x.data] 57)⟩) (opv_fieldAddr0 rfl) rfl ?_
              | refine R_pure 3 rfl (by kernel_rfl) (by kernel_rfl) (by kernel_rfl) (by kernel_rfl) (.inr ⟨_, Take.eq (A := cel b12 [.bool x.pass, .int .i64 x.now, .int .i64 x.id, .bool x.more, .int .i64 x.off, .int .i64 x.ttl, .int .i64 x.proto, .int .u8 x.s0, .int .u8 x.s1, .int .u8 x.s2, .int .u8 x.s3, .int .u8 x.d0, .int .u8 x.d1, .int .u8 x.d2, .int .u8 x.d3, .string x.data] 57)⟩) (opv_fieldAddr rfl) rfl ?_
            refine R_take 4 rfl (by kernel_rfl) (by kernel_rfl) (by kernel_rfl) (by kernel_rfl) (by kernel_rfl) (opv_loadS rfl) rfl ?_
            refine R_all [5, 11] (by kernel_rfl) rfl fun i hi => ?_
            simp only [List.mem_cons, List.not_mem_nil, or_false] at hi
            rcases hi with rfl | rfl
            · refine ⟨_, _, _, _, _, rfl, rfl, (opx_call0 (Plain05_f x.p hxA) rfl rfl rfl), fun _ _ => ⟨⟨_, Take.eq (A := cel b12 [.bool x.pass, .int .i64 x.now, .int .i64 x.id, .bool x.more, .int .i64 x.off, .int .i64 x.ttl, .int .i64 x.proto, .int .u8 x.s0, .int .u8 x.s1, .int .u8 x.s2, .int .u8 x.s3, .int .u8 x.d0, .int .u8 x.d1, .int .u8 x.d2, .int .u8 x.d3, .string x.data] 57)⟩, .inr ⟨_, Take.eq (A := cel b12 [.bool x.pass, .int .i64 x.now, .int .i64 x.id, .bool x.more, .int .i64 x.off, .int .i64 x.ttl, .int .i64 x.proto, .int .u8 x.s0, .int .u8 x.s1, .int .u8 x.s2, .int .u8 x.s3, .int .u8 x.d0, .int .u8 x.d1, .int .u8 x.d2, .int .u8 x.d3, .string x.data] 57)⟩, ?_⟩⟩
              refine Rg_emp ?_
              refine R_all [6, 11] (by kernel_rfl) rfl fun i hi => ?_
              simp only [List.mem_cons, List.not_mem_nil, or_false] at hi
              rcases hi with rfl | rfl
              · refine ⟨_, _, _, _, _, rfl, rfl, (opx_call0 (RPut_any rp y.2.2.2.1 y.2.2.2.2 y.2.2.1 m wt y.2.1 x.now y.1 hT (by omega) hS hq hB ⟨hw1, hw2⟩ x.p hxA (by show x.data.size ≤ _; omega) q okb cd T2 hput) rfl rfl rfl), fun rB hrB => ⟨⟨_, Take.eq (A := cel b12 [.bool x.pass, .int .i64 x.now, .int .i64 x.id, .bool x.more, .int .i64 x.off, .int .i64 x.ttl, .int .i64 x.proto, .int .u8 x.s0, .int .u8 x.s1, .int .u8 x.s2, .int .u8 x.s3, .int .u8 x.d0, .int .u8 x.d1, .int .u8 x.d2, .int .u8 x.d3, .string x.data] 57)⟩, .inr ⟨_, Take.eq (A := cel b12 [.bool x.pass, .int .i64 x.now, .int .i64 x.id, .bool x.more, .int .i64 x.off, .int .i64 x.ttl, .int .i64 x.proto, .int .u8 x.s0, .int .u8 x.s1, .int .u8 x.s2, .int .u8 x.s3, .int .u8 x.d0, .int .u8 x.d1, .int .u8 x.d2, .int .u8 x.d3, .string x.data] 57)⟩, ?_⟩⟩
                refine R_pure 7 rfl (by kernel_rfl) (by kernel_rfl) (by kernel_rfl) (by kernel_rfl) (.inr ⟨_, Take.eq (A := cel b12 [.bool x.pass, .int .i64 x.now, .int .i64 x.id, .bool x.more, .int .i64 x.off, .int .i64 x.ttl, .int .i64 x.proto, .int .u8 x.s0, .int .u8 x.s1, .int .u8 x.s2, .int .u8 x.s3, .int .u8 x.d0, .int .u8 x.d1, .int .u8 x.d2, .int .u8 x.d3, .string x.data] 57)⟩) (opv_move rfl) rfl ?_
                refine R_pure 8 rfl (by kernel_rfl) (by kernel_rfl) (by kernel_rfl) (by kernel_rfl) (.inr ⟨_, Take.eq (A := cel b12 [.bool x.pass, .int .i64 x.now, .int .i64 x.id, .bool x.more, .int .i64 x.off, .int .i64 x.ttl, .int .i64 x.proto, .int .u8 x.s0, .int .u8 x.s1, .int .u8 x.s2, .int .u8 x.s3, .int .u8 x.d0, .int .u8 x.d1, .int .u8 x.d2, .int .u8 x.d3, .string x.data] 57)⟩) (opv_extract (v := .agg [.int .i64 q.id, .bool q.more, .int .i64 q.off, .int .i64 q.ttl, .int .i64 q.proto, .string (aS q okb), .string (aD q okb), .string q.data].toArray) rfl rfl) rfl ?_
                refine R_pure 9 rfl (by kernel_rfl) (by kernel_rfl) (by kernel_rfl) (by kernel_rfl) (.inr ⟨_, Take.eq (A := cel b12 [.bool x.pass, .int .i64 x.now, .int .i64 x.id, .bool x.more, .int .i64 x.off, .int .i64 x.ttl, .int .i64 x.proto, .int .u8 x.s0, .int .u8 x.s1, .int .u8 x.s2, .int .u8 x.s3, .int .u8 x.d0, .int .u8 x.d1, .int .u8 x.d2, .int .u8 x.d3, .string x.data] 57)⟩) (opv_extract rfl rfl) rfl ?_
                refine R_pure 10 rfl (by kernel_rfl) (by kernel_rfl) (by kernel_rfl) (by kernel_rfl) (.inr ⟨_, Take.eq (A := cel b12 [.bool x.pass, .int .i64 x.now, .int .i64 x.id, .bool x.more, .int .i64 x.off, .int .i64 x.ttl, .int .i64 x.proto, .int .u8 x.s0, .int .u8 x.s1, .int .u8 x.s2, .int .u8 x.s3, .int .u8 x.d0, .int .u8 x.d1, .int .u8 x.d2, .int .u8 x.d3, .string x.data] 57)⟩) (opv_extract rfl rfl) rfl ?_
                refine R_only 11 rfl rfl (by kernel_rfl) (opx_alloc rfl) (fun _ _ => ⟨_, Take.eq (A := cel b12 [.bool x.pass, .int .i64 x.now, .int .i64 x.id, .bool x.more, .int .i64 x.off, .int .i64 x.ttl, .int .i64 x.proto, .int .u8 x.s0, .int .u8 x.s1, .int .u8 x.s2, .int .u8 x.s3, .int .u8 x.d0, .int .u8 x.d1, .int .u8 x.d2, .int .u8 x.d3, .string x.data] 57)⟩) (.inr fun _ _ => ⟨_, Take.eq (A := cel b12 [.bool x.pass, .int .i64 x.now, .int .i64 x.id, .bool x.more, .int .i64 x.off, .int .i64 x.ttl, .int .i64 x.proto, .int .u8 x.s0, .int .u8 x.s1, .int .u8 x.s2, .int .u8 x.s3, .int .u8 x.d0, .int .u8 x.d1, .int .u8 x.d2, .int .u8 x.d3, .string x.data] 57)⟩) (fun b16 _ => ?_)
                refine R_only 12 rfl rfl (by kernel_rfl) (opx_store rfl rfl rfl (by simp [Value.oneCell'])) (fun _ _ => ⟨_, Take.eq (A := cel b12 [.bool x.pass, .int .i64 x.now, .int .i64 x.id, .bool x.more, .int .i64 x.off, .int .i64 x.ttl, .int .i64 x.proto, .int .u8 x.s0, .int .u8 x.s1, .int .u8 x.s2, .int .u8 x.s3, .int .u8 x.d0, .int .u8 x.d1, .int .u8 x.d2, .int .u8 x.d3, .string x.data] 57)⟩) (.inr fun _ _ => ⟨_, Take.eq (A := cel b12 [.bool x.pass, .int .i64 x.now, .int .i64 x.id, .bool x.more, .int .i64 x.off, .int .i64 x.ttl, .int .i64 x.proto, .int .u8 x.s0, .int .u8 x.s1, .int .u8 x.s2, .int .u8 x.s3, .int .u8 x.d0, .int .u8 x.d1, .int .u8 x.d2, .int .u8 x.d3, .string x.data] 57)⟩) (fun _ _ => ?_)
                refine R_pure 13 rfl (by kernel_rfl) (by kernel_rfl) (by kernel_rfl) (by kernel_rfl) (.inr ⟨_, Take.eq (A := cel b12 [.bool x.pass, .int .i64 x.now, .int .i64 x.id, .bool x.more, .int .i64 x.off, .int .i64 x.ttl, .int .i64 x.proto, .int .u8 x.s0, .int .u8 x.s1, .int .u8 x.s2, .int .u8 x.s3, .int .u8 x.d0, .int .u8 x.d1, .int .u8 x.d2, .int .u8 x.d3, .string x.data] 57)⟩) (opv_assign rfl) rfl ?_
                refine R_pure 14 rfl (by kernel_rfl) (by kernel_rfl) (by kernel_rfl) (by kernel_rfl) (.inr ⟨_, Take.eq (A := cel b12 [.bool x.pass, .int .i64 x.now, .int .i64 x.id, .bool x.more, .int .i64 x.off, .int .i64 x.ttl, .int .i64 x.proto, .int .u8 x.s0, .int .u8 x.s1, .int .u8 x.s2, .int .u8 x.s3, .int .u8 x.d0, .int .u8 x.d1, .int .u8 x.d2, .int .u8 x.d3, .string x.data] 57)⟩) (opv_assign rfl) rfl ?_
                refine R_done (by kernel_rfl) ?_
                refine K_then ?_
                refine J_seq ?_
                refine J_quiet Try.mixed (by kernel_rfl) ?_
                refine Q_v (opv_move rfl) rfl ?_
                refine Q_v (opv_move rfl) rfl ?_
                refine Q_v ((opv_neqB rfl rfl).as (v' := .bool false) (by simp)) rfl ?_
                refine Q_v (opv_move rfl) rfl ?_
                refine Q_gon rfl rfl rfl ?_
                refine Q_v (opv_move rfl) rfl ?_
                refine Q_gon rfl rfl rfl ?_
                refine Q_v (opv_move rfl) rfl ?_
                refine Q_gon rfl rfl rfl ?_
                refine Q_v ((opv_neq rfl rfl).bool_f (fun n => n rfl)) rfl ?_
                first
                  | refine Q_v (opv_pick_tt rfl rfl) rfl ?_
                  | refine Q_v (opv_pick_ff rfl rfl) rfl ?_
                  | refine Q_v (opv_pick rfl rfl rfl) rfl ?_
                refine Q_v (opv_move rfl) rfl ?_
                refine Q_gon rfl rfl rfl ?_
                refine Q_v (opv_loadS rfl) rfl ?_
                refine Q_gon rfl rfl rfl ?_
                refine Q_v (opv_move rfl) rfl ?_
                refine Q_gon rfl rfl rfl ?_
                refine Q_v (opv_not rfl) rfl ?_
                refine Q_gon rfl rfl rfl ?_
                refine Q_call (Plain_any q okb hqA hqz) rfl rfl (fun _ _ => rfl) (fun _ _ => Ent.refl _) rfl ?_
                refine Q_gon rfl rfl rfl ?_
                refine Q_v (opv_loadS rfl) rfl ?_
                refine Q_gon rfl rfl rfl ?_
                refine Q_v ((opv_neqF rfl rfl (by simp [Shape, CK.sh]) (by simp [Shape, CK.sh])).bool_f (fun n => n rfl)) rfl ?_
                first
                  | refine Q_v (opv_pick_tt rfl rfl) rfl ?_
                  | refine Q_v (opv_pick_ff rfl rfl) rfl ?_
                  | refine Q_v (opv_pick rfl rfl rfl) rfl ?_
                refine QL_nil ?_
                refine K_then ?_
                refine J_cond_false rfl ?_
                refine J_skip ?_
                exact K_cut (T2, rB.1, rB.2) (hrel.put hput hrB) ⟨rfl, rfl, rfl, rfl, trivial⟩ Ent.take
              · refine ⟨_, _, _, _, _, rfl, rfl, (opx_alloc rfl), fun b16 _ => ⟨⟨_, Take.eq (A := cel b12 [.bool x.pass, .int .i64 x.now, .int .i64 x.id, .bool x.more, .int .i64 x.off, .int .i64 x.ttl, .int .i64 x.proto, .int .u8 x.s0, .int .u8 x.s1, .int .u8 x.s2, .int .u8 x.s3, .int .u8 x.d0, .int .u8 x.d1, .int .u8 x.d2, .int .u8 x.d3, .string x.data] 57)⟩, .inr ⟨_, Take.eq (A := cel b12 [.bool x.pass, .int .i64 x.now, .int .i64 x.id, .bool x.more, .int .i64 x.off, .int .i64 x.ttl, .int .i64 x.proto, .int .u8 x.s0, .int .u8 x.s1, .int .u8 x.s2, .int .u8 x.s3, .int .u8 x.d0, .int .u8 x.d1, .int .u8 x.d2, .int .u8 x.d3, .string x.data] 57)⟩, ?_⟩⟩
                refine R_only 6 rfl rfl (by kernel_rfl) (opx_call0 (RPut_any rp y.2.2.2.1 y.2.2.2.2 y.2.2.1 m wt y.2.1 x.now y.1 hT (by omega) hS hq hB ⟨hw1, hw2⟩ x.p hxA (by show x.data.size ≤ _; omega) q okb cd T2 hput) rfl rfl rfl) (fun _ _ => ⟨_, Take.eq (A := cel b12 [.bool x.pass, .int .i64 x.now, .int .i64 x.id, .bool x.more, .int .i64 x.off, .int .i64 x.ttl, .int .i64 x.proto, .int .u8 x.s0, .int .u8 x.s1, .int .u8 x.s2, .int .u8 x.s3, .int .u8 x.d0, .int .u8 x.d1, .int .u8 x.d2, .int .u8 x.d3, .string x.data] 57)⟩) (.inr fun _ _ => ⟨_, Take.eq (A := cel b12 [.bool x.pass, .int .i64 x.now, .int .i64 x.id, .bool x.more, .int .i64 x.off, .int .i64 x.ttl, .int .i64 x.proto, .int .u8 x.s0, .int .u8 x.s1, .int .u8 x.s2, .int .u8 x.s3, .int .u8 x.d0, .int .u8 x.d1, .int .u8 x.d2, .int .u8 x.d3, .string x.data] 57)⟩) (fun rB hrB => ?_)
                refine R_pure 7 rfl (by kernel_rfl) (by kernel_rfl) (by kernel_rfl) (by kernel_rfl) (.inr ⟨_, Take.eq (A := cel b12 [.bool x.pass, .int .i64 x.now, .int .i64 x.id, .bool x.more, .int .i64 x.off, .int .i64 x.ttl, .int .i64 x.proto, .int .u8 x.s0, .int .u8 x.s1, .int .u8 x.s2, .int .u8 x.s3, .int .u8 x.d0, .int .u8 x.d1, .int .u8 x.d2, .int .u8 x.d3, .string x.data] 57)⟩) (opv_move rfl) rfl ?_
                refine R_pure 8 rfl (by kernel_rfl) (by kernel_rfl) (by kernel_rfl) (by kernel_rfl) (.inr ⟨_, Take.eq (A := cel b12 [.bool x.pass, .int .i64 x.now, .int .i64 x.id, .bool x.more, .int .i64 x.off, .int .i64 x.ttl, .int .i64 x.proto, .int .u8 x.s0, .int .u8 x.s1, .int .u8 x.s2, .int .u8 x.s3, .int .u8 x.d0, .int .u8 x.d1, .int .u8 x.d2, .int .u8 x.d3, .string x.data] 57)⟩) (opv_extract (v := .agg [.int .i64 q.id, .bool q.more, .int .i64 q.off, .int .i64 q.ttl, .int .i64 q.proto, .string (aS q okb), .string (aD q okb), .string q.data].toArray) rfl rfl) rfl ?_
                refine R_pure 9 rfl (by kernel_rfl) (by kernel_rfl) (by kernel_rfl) (by kernel_rfl) (.inr ⟨_, Take.eq (A := cel b12 [.bool x.pass, .int .i64 x.now, .int .i64 x.id, .bool x.more, .int .i64 x.off, .int .i64 x.ttl, .int .i64 x.proto, .int .u8 x.s0, .int .u8 x.s1, .int .u8 x.s2, .int .u8 x.s3, .int .u8 x.d0, .int .u8 x.d1, .int .u8 x.d2, .int .u8 x.d3, .string x.data] 57)⟩) (opv_extract rfl rfl) rfl ?_
                refine R_pure 10 rfl (by kernel_rfl) (by kernel_rfl) (by kernel_rfl) (by kernel_rfl) (.inr ⟨_, Take.eq (A := cel b12 [.bool x.pass, .int .i64 x.now, .int .i64 x.id, .bool x.more, .int .i64 x.off, .int .i64 x.ttl, .int .i64 x.proto, .int .u8 x.s0, .int .u8 x.s1, .int .u8 x.s2, .int .u8 x.s3, .int .u8 x.d0, .int .u8 x.d1, .int .u8 x.d2, .int .u8 x.d3, .string x.data] 57)⟩) (opv_extract rfl rfl) rfl ?_
                refine R_only 12 rfl rfl (by kernel_rfl) (opx_store rfl rfl rfl (by simp [Value.oneCell'])) (fun _ _ => ⟨_, Take.eq (A := cel b12 [.bool x.pass, .int .i64 x.now, .int .i64 x.id, .bool x.more, .int .i64 x.off, .int .i64 x.ttl, .int .i64 x.proto, .int .u8 x.s0, .int .u8 x.s1, .int .u8 x.s2, .int .u8 x.s3, .int .u8 x.d0, .int .u8 x.d1, .int .u8 x.d2, .int .u8 x.d3, .string x.data] 57)⟩) (.inr fun _ _ => ⟨_, Take.eq (A := cel b12 [.bool x.pass, .int .i64 x.now, .int .i64 x.id, .bool x.more, .int .i64 x.off, .int .i64 x.ttl, .int .i64 x.proto, .int .u8 x.s0, .int .u8 x.s1, .int .u8 x.s2, .int .u8 x.s3, .int .u8 x.d0, .int .u8 x.d1, .int .u8 x.d2, .int .u8 x.d3, .string x.data] 57)⟩) (fun _ _ => ?_)
                refine R_pure 13 rfl (by kernel_rfl) (by kernel_rfl) (by kernel_rfl) (by kernel_rfl) (.inr ⟨_, Take.eq (A := cel b12 [.bool x.pass, .int .i64 x.now, .int .i64 x.id, .bool x.more, .int .i64 x.off, .int .i64 x.ttl, .int .i64 x.proto, .int .u8 x.s0, .int .u8 x.s1, .int .u8 x.s2, .int .u8 x.s3, .int .u8 x.d0, .int .u8 x.d1, .int .u8 x.d2, .int .u8 x.d3, .string x.data] 57)⟩) (opv_assign rfl) rfl ?_
                refine R_pure 14 rfl (by kernel_rfl) (by kernel_rfl) (by kernel_rfl) (by kernel_rfl) (.inr ⟨_, Take.eq (A := cel b12 [.bool x.pass, .int .i64 x.now, .int .i64 x.id, .bool x.more, .int .i64 x.off, .int .i64 x.ttl, .int .i64 x.proto, .int .u8 x.s0, .int .u8 x.s1, .int .u8 x.s2, .int .u8 x.s3, .int .u8 x.d0, .int .u8 x.d1, .int .u8 x.d2, .int .u8 x.d3, .string x.data] 57)⟩) (opv_assign rfl) rfl ?_
                refine R_done (by kernel_rfl) ?_
                refine K_then ?_
                refine J_seq ?_
                refine J_quiet Try.mixed (by kernel_rfl) ?_
                refine Q_v (opv_move rfl) rfl ?_
                refine Q_v (opv_move rfl) rfl ?_
                refine Q_v ((opv_neqB rfl rfl).as (v' := .bool false) (by simp)) rfl ?_
                refine Q_v (opv_move rfl) rfl ?_
                refine Q_gon rfl rfl rfl ?_
                refine Q_v (opv_move rfl) rfl ?_
                refine Q_gon rfl rfl rfl ?_
                refine Q_v (opv_move rfl) rfl ?_
                refine Q_gon rfl rfl rfl ?_
                refine Q_v ((opv_neq rfl rfl).bool_f (fun n => n rfl)) rfl ?_
                first
                  | refine Q_v (opv_pick_tt rfl rfl) rfl ?_
                  | refine Q_v (opv_pick_ff rfl rfl) rfl ?_
                  | refine Q_v (opv_pick rfl rfl rfl) rfl ?_
                refine Q_v (opv_move rfl) rfl ?_
                refine Q_gon rfl rfl rfl ?_
                refine Q_v (opv_loadS rfl) rfl ?_
                refine Q_gon rfl rfl rfl ?_
                refine Q_v (opv_move rfl) rfl ?_
                refine Q_gon rfl rfl rfl ?_
                refine Q_v (opv_not rfl) rfl ?_
                refine Q_gon rfl rfl rfl ?_
                refine Q_call (Plain_any q okb hqA hqz) rfl rfl (fun _ _ => rfl) (fun _ _ => Ent.refl _) rfl ?_
                refine Q_gon rfl rfl rfl ?_
                refine Q_v (opv_loadS rfl) rfl ?_
                refine Q_gon rfl rfl rfl ?_
                refine Q_v ((opv_neqF rfl rfl (by simp [Shape, CK.sh]) (by simp [Shape, CK.sh])).bool_f (fun n => n rfl)) rfl ?_
                first
                  | refine Q_v (opv_pick_tt rfl rfl) rfl ?_
                  | refine Q_v (opv_pick_ff rfl rfl) rfl ?_
                  | refine Q_v (opv_pick rfl rfl rfl) rfl ?_
                refine QL_nil ?_
                refine K_then ?_
                refine J_cond_false rfl ?_
                refine J_skip ?_
                exact K_cut (T2, rB.1, rB.2) (hrel.put hput hrB) ⟨rfl, rfl, rfl, rfl, trivial⟩ Ent.take
            · refine ⟨_, _, _, _, _, rfl, rfl, (opx_alloc rfl), fun b16 _ => ⟨⟨_, Take.eq (A := cel b12 [.bool x.pass, .int .i64 x.now, .int .i64 x.id, .bool x.more, .int .i64 x.off, .int .i64 x.ttl, .int .i64 x.proto, .int .u8 x.s0, .int .u8 x.s1, .int .u8 x.s2, .int .u8 x.s3, .int .u8 x.d0, .int .u8 x.d1, .int .u8 x.d2, .int .u8 x.d3, .string x.data] 57)⟩, .inr ⟨_, Take.eq (A := cel b12 [.bool x.pass, .int .i64 x.now, .int .i64 x.id, .bool x.more, .int .i64 x.off, .int .i64 x.ttl, .int .i64 x.proto, .int .u8 x.s0, .int .u8 x.s1, .int .u8 x.s2, .int .u8 x.s3, .int .u8 x.d0, .int .u8 x.d1, .int .u8 x.d2, .int .u8 x.d3, .string x.data] 57)⟩, ?_⟩⟩
              refine R_only 5 rfl rfl (by kernel_rfl) (opx_call0 (Plain05_f x.p hxA) rfl rfl rfl) (fun _ _ => ⟨_, Take.eq (A := cel b12 [.bool x.pass, .int .i64 x.now, .int .i64 x.id, .bool x.more, .int .i64 x.off, .int .i64 x.ttl, .int .i64 x.proto, .int .u8 x.s0, .int .u8 x.s1, .int .u8 x.s2, .int .u8 x.s3, .int .u8 x.d0, .int .u8 x.d1, .int .u8 x.d2, .int .u8 x.d3, .string x.data] 57)⟩) (.inr fun _ _ => ⟨_, Take.eq (A := cel b12 [.bool x.pass, .int .i64 x.now, .int .i64 x.id, .bool x.more, .int .i64 x.off, .int .i64 x.ttl, .int .i64 x.proto, .int .u8 x.s0, .int .u8 x.s1, .int .u8 x.s2, .int .u8 x.s3, .int .u8 x.d0, .int .u8 x.d1, .int .u8 x.d2, .int .u8 x.d3, .string x.data] 57)⟩) (fun _ _ => ?_)
              refine Rg_emp ?_
              refine R_only 6 rfl rfl (by kernel_rfl) (opx_call0 (RPut_any rp y.2.2.2.1 y.2.2.2.2 y.2.2.1 m wt y.2.1 x.now y.1 hT (by omega) hS hq hB ⟨hw1, hw2⟩ x.p hxA (by show x.data.size ≤ _; omega) q okb cd T2 hput) rfl rfl rfl) (fun _ _ => ⟨_, Take.eq (A := cel b12 [.bool x.pass, .int .i64 x.now, .int .i64 x.id, .bool x.more, .int .i64 x.off, .int .i64 x.ttl, .int .i64 x.proto, .int .u8 x.s0, .int .u8 x.s1, .int .u8 x.s2, .int .u8 x.s3, .int .u8 x.d0, .int .u8 x.d1, .int .u8 x.d2, .int .u8 x.d3, .string x.data] 57)⟩) (.inr fun _ _ => ⟨_, Take.eq (A := cel b12 [.bool x.pass, .int .i64 x.now, .int .i64 x.id, .bool x.more, .int .i64 x.off, .int .i64 x.ttl, .int .i64 x.proto, .int .u8 x.s0, .int .u8 x.s1, .int .u8 x.s2, .int .u8 x.s3, .int .u8 x.d0, .int .u8 x.d1, .int .u8 x.d2, .int .u8 x.d3, .string x.data] 57)⟩) (fun rB hrB => ?_)
              refine R_pure 7 rfl (by kernel_rfl) (by kernel_rfl) (by kernel_rfl) (by kernel_rfl) (.inr ⟨_, Take.eq (A := cel b12 [.bool x.pass, .int .i64 x.now, .int .i64 x.id, .bool x.more, .int .i64 x.off, .int .i64 x.ttl, .int .i64 x.proto, .int .u8 x.s0, .int .u8 x.s1, .int .u8 x.s2, .int .u8 x.s3, .int .u8 x.d0, .int .u8 x.d1, .int .u8 x.d2, .int .u8 x.d3, .string x.data] 57)⟩) (opv_move rfl) rfl ?_
              refine R_pure 8 rfl (by kernel_rfl) (by kernel_rfl) (by kernel_rfl) (by kernel_rfl) (.inr ⟨_, Take.eq (A := cel b12 [.bool x.pass, .int .i64 x.now, .int .i64 x.id, .bool x.more, .int .i64 x.off, .int .i64 x.ttl, .int .i64 x.proto, .int .u8 x.s0, .int .u8 x.s1, .int .u8 x.s2, .int .u8 x.s3, .int .u8 x.d0, .int .u8 x.d1, .int .u8 x.d2, .int .u8 x.d3, .string x.data] 57)⟩) (opv_extract (v := .agg [.int .i64 q.id, .bool q.more, .int .i64 q.off, .int .i64 q.ttl, .int .i64 q.proto, .string (aS q okb), .string (aD q okb), .string q.data].toArray) rfl rfl) rfl ?_
              refine R_pure 9 rfl (by kernel_rfl) (by kernel_rfl) (by kernel_rfl) (by kernel_rfl) (.inr ⟨_, Take.eq (A := cel b12 [.bool x.pass, .int .i64 x.now, .int .i64 x.id, .bool x.more, .int .i64 x.off, .int .i64 x.ttl, .int .i64 x.proto, .int .u8 x.s0, .int .u8 x.s1, .int .u8 x.s2, .int .u8 x.s3, .int .u8 x.d0, .int .u8 x.d1, .int .u8 x.d2, .int .u8 x.d3, .string x.data] 57)⟩) (opv_extract rfl rfl) rfl ?_
              refine R_pure 10 rfl (by kernel_rfl) (by kernel_rfl) (by kernel_rfl) (by kernel_rfl) (.inr ⟨_, Take.eq (A := cel b12 [.bool x.pass, .int .i64 x.now, .int .i64 x.id, .bool x.more, .int .i64 x.off, .int .i64 x.ttl, .int .i64 x.proto, .int .u8 x.s0, .int .u8 x.s1, .int .u8 x.s2, .int .u8 x.s3, .int .u8 x.d0, .int .u8 x.d1, .int .u8 x.d2, .int .u8 x.d3, .string x.data] 57)⟩) (opv_extract rfl rfl) rfl ?_
              refine R_only 12 rfl rfl (by kernel_rfl) (opx_store rfl rfl rfl (by simp [Value.oneCell'])) (fun _ _ => ⟨_, Take.eq (A := cel b12 [.bool x.pass, .int .i64 x.now, .int .i64 x.id, .bool x.more, .int .i64 x.off, .int .i64 x.ttl, .int .i64 x.proto, .int .u8 x.s0, .int .u8 x.s1, .int .u8 x.s2, .int .u8 x.s3, .int .u8 x.d0, .int .u8 x.d1, .int .u8 x.d2, .int .u8 x.d3, .string x.data] 57)⟩) (.inr fun _ _ => ⟨_, Take.eq (A := cel b12 [.bool x.pass, .int .i64 x.now, .int .i64 x.id, .bool x.more, .int .i64 x.off, .int .i64 x.ttl, .int .i64 x.proto, .int .u8 x.s0, .int .u8 x.s1, .int .u8 x.s2, .int .u8 x.s3, .int .u8 x.d0, .int .u8 x.d1, .int .u8 x.d2, .int .u8 x.d3, .string x.data] 57)⟩) (fun _ _ => ?_)
              refine R_pure 13 rfl (by kernel_rfl) (by kernel_rfl) (by kernel_rfl) (by kernel_rfl) (.inr ⟨_, Take.eq (A := cel b12 [.bool x.pass, .int .i64 x.now, .int .i64 x.id, .bool x.more, .int .i64 x.off, .int .i64 x.ttl, .int .i64 x.proto, .int .u8 x.s0, .int .u8 x.s1, .int .u8 x.s2, .int .u8 x.s3, .int .u8 x.d0, .int .u8 x.d1, .int .u8 x.d2, .int .u8 x.d3, .string x.data] 57)⟩) (opv_assign rfl) rfl ?_
              refine R_pure 14 rfl (by kernel_rfl) (by kernel_rfl) (by kernel_rfl) (by kernel_rfl) (.inr ⟨_, Take.eq (A := cel b12 [.bool x.pass, .int .i64 x.now, .int .i64 x.id, .bool x.more, .int .i64 x.off, .int .i64 x.ttl, .int .i64 x.proto, .int .u8 x.s0, .int .u8 x.s1, .int .u8 x.s2, .int .u8 x.s3, .int .u8 x.d0, .int .u8 x.d1, .int .u8 x.d2, .int .u8 x.d3, .string x.data] 57)⟩) (opv_assign rfl) rfl ?_
              refine R_done (by kernel_rfl) ?_
              refine K_then ?_
              refine J_seq ?_
              refine J_quiet Try.mixed (by kernel_rfl) ?_
              refine Q_v (opv_move rfl) rfl ?_
              refine Q_v (opv_move rfl) rfl ?_
              refine Q_v ((opv_neqB rfl rfl).as (v' := .bool false) (by simp)) rfl ?_
              refine Q_v (opv_move rfl) rfl ?_
              refine Q_gon rfl rfl rfl ?_
              refine Q_v (opv_move rfl) rfl ?_
              refine Q_gon rfl rfl rfl ?_
              refine Q_v (opv_move rfl) rfl ?_
              refine Q_gon rfl rfl rfl ?_
              refine Q_v ((opv_neq rfl rfl).bool_f (fun n => n rfl)) rfl ?_
              first
                | refine Q_v (opv_pick_tt rfl rfl) rfl ?_
                | refine Q_v (opv_pick_ff rfl rfl) rfl ?_
                | refine Q_v (opv_pick rfl rfl rfl) rfl ?_
              refine Q_v (opv_move rfl) rfl ?_
              refine Q_gon rfl rfl rfl ?_
              refine Q_v (opv_loadS rfl) rfl ?_
              refine Q_gon rfl rfl rfl ?_
              refine Q_v (opv_move rfl) rfl ?_
              refine Q_gon rfl rfl rfl ?_
              refine Q_v (opv_not rfl) rfl ?_
              refine Q_gon rfl rfl rfl ?_
              refine Q_call (Plain_any q okb hqA hqz) rfl rfl (fun _ _ => rfl) (fun _ _ => Ent.refl _) rfl ?_
              refine Q_gon rfl rfl rfl ?_
              refine Q_v (opv_loadS rfl) rfl ?_
              refine Q_gon rfl rfl rfl ?_
              refine Q_v ((opv_neqF rfl rfl (by simp [Shape, CK.sh]) (by simp [Shape, CK.sh])).bool_f (fun n => n rfl)) rfl ?_
              first
                | refine Q_v (opv_pick_tt rfl rfl) rfl ?_
                | refine Q_v (opv_pick_ff rfl rfl) rfl ?_
                | refine Q_v (opv_pick rfl rfl rfl) rfl ?_
              refine QL_nil ?_
              refine K_then ?_
              refine J_cond_false rfl ?_
              refine J_skip ?_
              exact K_cut (T2, rB.1, rB.2) (hrel.put hput hrB) ⟨rfl, rfl, rfl, rfl, trivial⟩ Ent.take
        · obtain ⟨vT, vS, vq, vB⟩ := hv
          have hvn := vT.n
          have hvd := vT.dr
          have hvl := B_len vq
          have hkl2 := keysOf_len v.1.q
          refine J_seq ?_
          refine J_region ?_
          refine L_v (opv_move rfl) rfl ?_
          refine L_x rfl (opx_call0 (Keys_spec tp m wt v.1 (by omega)) rfl rfl rfl) (fun z _ => ?_)
          refine L_v (opv_assign rfl) rfl ?_
          refine L_nil ?_
          refine K_then ?_
          refine J_seq ?_
          refine J_seq ?_
          refine J_quiet Try.mixed (by kernel_rfl) ?_
          refine Q_v (opv_move rfl) rfl ?_
          first
            | refine Q_v (opv_lenL rfl) rfl ?_
            | refine Q_v (opv_lenS rfl) rfl ?_
          refine Q_v (opv_move rfl) rfl ?_
          refine Q_v (opv_nilCheck rfl) rfl ?_
          first
            | refine Q_v (opv_fieldAddr0 rfl) rfl ?_
            | refine Q_v (opv_fieldAddr rfl) rfl ?_
          refine Q_v (opv_load rfl (Rd.look rfl)) rfl ?_
          first
            | refine Q_v (opv_lenL rfl) rfl ?_
            | refine Q_v (opv_lenS rfl) rfl ?_
          refine Q_v ((opv_neq rfl rfl).bool_f (fun n => n (by rw [keysOf_len, hvl]))) rfl ?_
          refine Q_v (opv_move rfl) rfl ?_
          refine Q_gon rfl rfl rfl ?_
          refine Q_v (opv_move rfl) rfl ?_
          refine Q_gon rfl rfl rfl ?_
          refine Q_call (Dropped_spec tp m wt v.1) rfl rfl (fun _ _ => rfl) (fun _ _ => Ent.refl _) rfl ?_
          refine Q_gon rfl rfl rfl ?_
          refine Q_v (opv_move rfl) rfl ?_
          refine Q_gon rfl rfl rfl ?_
          refine Q_v (opv_nilCheck rfl) rfl ?_
          refine Q_gon rfl rfl rfl ?_
          first
            | refine Q_v (opv_fieldAddr0 rfl) rfl ?_
            | refine Q_v (opv_fieldAddr rfl) rfl ?_
          refine Q_gon rfl rfl rfl ?_
          refine Q_v (opv_load rfl (Rd.look rfl)) rfl ?_
          refine Q_gon rfl rfl rfl ?_
          refine Q_v ((opv_neq rfl rfl).bool_f (fun n => n rfl)) rfl ?_
          first
            | refine Q_v (opv_pick_tt rfl rfl) rfl ?_
            | refine Q_v (opv_pick_ff rfl rfl) rfl ?_
            | refine Q_v (opv_pick rfl rfl rfl) rfl ?_
          refine QL_nil ?_
          refine K_then ?_
          refine J_cond_false rfl ?_
          refine J_skip ?_
          refine K_then ?_
          refine J_seq ?_
          refine J_region ?_
          refine L_v (opv_assign rfl) rfl ?_
          refine L_nil ?_
          refine K_then ?_
          refine J_block ?_
          refine J_loop (X := Nat) (fun k => [(2, .slice (some (ad b o)) xs.length c), (7, .pointer (some (ad tp 0))), (9, .pointer (some (ad rp 0))), (11, .int .i64 y.1), (19, .slice z.1 (keysOf v.1.q).length z.2), (20, .int .i64 k)]) (fun k => (sep (Own 70 10 (.slice z.1 (keysOf v.1.q).length z.2) (keysOf v.1.q).length (flatK (keysOf v.1.q))) (sep (TabP tp m wt v.1) (sep (Own 73 10 (.slice v.2.2.1 v.2.1.length v.2.2.2) v.2.1.length (v.2.1.flatMap encB)) (sep (cel rp [.slice v.2.2.1 v.2.1.length v.2.2.2, .int .i64 m, .int .i64 wt, .int .i64 v.1.now, .int .i64 v.1.dr] 67) (sep (old W) (F))))))) (fun k => k ≤ (keysOf v.1.q).length) (fun k => (keysOf v.1.q).length - k) (0) (Nat.zero_le _) ⟨rfl, rfl, rfl, rfl, rfl, rfl, trivial⟩ Ent.take (fun k hk2 => ?_)
          refine J_know (fun w hs => own_nonnil hs) fun hZ => ?_
          refine J_know (fun w hs => own_nonnil hs.drop.drop) fun hV => ?_
          refine J_seq ?_
          refine J_seq ?_
          refine J_region ?_
          refine L_v (opv_move rfl) rfl ?_
          refine L_v (opv_move rfl) rfl ?_
          first
            | refine L_v (opv_lenL rfl) rfl ?_
            | refine L_v (opv_lenS rfl) rfl ?_
          refine L_v (opv_lss rfl rfl) rfl ?_
          refine L_nil ?_
          refine K_then ?_
          refine J_cond rfl (fun h5 => ?_) (fun h5 => ?_)
          · obtain ⟨ky, hky⟩ : ∃ x, (keysOf v.1.q)[k]? = some x := ⟨_, List.getElem?_eq_getElem (by omega)⟩
            obtain ⟨yb, hyb⟩ : ∃ x, v.2.1[k]? = some x := ⟨_, List.getElem?_eq_getElem (by omega)⟩
            have hkk : ky = kyOf yb.p := by have := keysB_get hyb; rw [vq, hky] at this; exact Option.some.inj this
            have hkk2 : kyOf (⟨ky.id, false, 0, 0, ky.proto, ky.s0, ky.s1, ky.s2, ky.s3, ky.d0, ky.d1, ky.d2, ky.d3, ⟨#[]⟩⟩ : Pk) = kyOf yb.p := hkk
            have hkA : okA (⟨ky.id, false, 0, 0, ky.proto, ky.s0, ky.s1, ky.s2, ky.s3, ky.d0, ky.d1, ky.d2, ky.d3, ⟨#[]⟩⟩ : Pk) := by rw [hkk]; exact vB yb (List.mem_of_getElem? hyb)
            obtain ⟨bz, oz, hze⟩ : ∃ b o, z.1 = some (ad b o) := by rcases hZ with ⟨_, _, h, _⟩ | h; omega; exact h
            obtain ⟨b2, o2, hve⟩ : ∃ b o, v.2.2.1 = some (ad b o) := by rcases hV with ⟨_, _, h, _⟩ | h; omega; exact h
            rw [hze, hve]
            refine J_skip ?_
            refine K_then ?_
            refine J_seq ?_
            refine J_block ?_
            refine J_seq ?_
            refine J_steps (Own 70 10 (.slice (some (ad bz oz)) (keysOf v.1.q).length z.2) (keysOf v.1.q).length (flatK (keysOf v.1.q))) (Own 70 10 (.slice (some (ad bz oz)) (keysOf v.1.q).length z.2) (keysOf v.1.q).length (flatK (keysOf v.1.q))) [] Try.mixed ?_
            refine R_pure 0 rfl (by kernel_rfl) (by kernel_rfl) (by kernel_rfl) (by kernel_rfl) (.inr ⟨_, Take.eq (A := Own 70 10 (.slice (some (ad bz oz)) (keysOf v.1.q).length z.2) (keysOf v.1.q).length (flatK (keysOf v.1.q)))⟩) (opv_move rfl) rfl ?_
            refine R_pure 1 rfl (by kernel_rfl) (by kernel_rfl) (by kernel_rfl) (by kernel_rfl) (.inr ⟨_, Take.eq (A := Own 70 10 (.slice (some (ad bz oz)) (keysOf v.1.q).length z.2) (keysOf v.1.q).length (flatK (keysOf v.1.q)))⟩) (opv_move rfl) rfl ?_
            first
              | refine R_pure 2 rfl (by kernel_rfl) (by kernel_rfl) (by kernel_rfl) (by kernel_rfl) (.inr ⟨_, Take.eq (A := Own 70 10 (.slice (some (ad bz oz)) (keysOf v.1.q).length z.2) (keysOf v.1.q).length (flatK (keysOf v.1.q)))⟩) (opv_indexAddr rfl rfl (by omega)) rfl ?_
              | refine R_pure 2 rfl (by kernel_rfl) (by kernel_rfl) (by kernel_rfl) (by kernel_rfl) (.inr ⟨_, Take.eq (A := Own 70 10 (.slice (some (ad bz oz)) (keysOf v.1.q).length z.2) (keysOf v.1.q).length (flatK (keysOf v.1.q)))⟩) (opv_indexAddrA rfl rfl (by omega)) rfl ?_
            first
              | refine R_pure 3 rfl (by kernel_rfl) (by kernel_rfl) (by kernel_rfl) (by kernel_rfl) (.inr ⟨_, Take.eq (A := Own 70 10 (.slice (some (ad bz oz)) (keysOf v.1.q).length z.2) (keysOf v.1.q).length (flatK (keysOf v.1.q)))⟩) (opv_fieldAddr0 rfl) rfl ?_
              | refine R_pure 3 rfl (by kernel_rfl) (by kernel_rfl) (by kernel_rfl) (by kernel_rfl) (.inr ⟨_, Take.eq (A := Own 70 10 (.slice (some (ad bz oz)) (keysOf v.1.q).length z.2) (keysOf v.1.q).length (flatK (keysOf v.1.q)))⟩) (opv_fieldAddr rfl) rfl ?_
            refine R_take 4 rfl (by kernel_rfl) (by kernel_rfl) (by kernel_rfl) (by kernel_rfl) (by kernel_rfl) (opv_loadN (vs := [.int .u8 ky.s0, .int .u8 ky.s1, .int .u8 ky.s2, .int .u8 ky.s3]) rfl rfl (fun j u hj => Rd.of_take (S := Own 70 10 (.slice (some (ad bz oz)) (keysOf v.1.q).length z.2) (keysOf v.1.q).length (flatK (keysOf v.1.q))) (RdS.rdf (RdS.own (m := 10) (e := 70) (c := z.2) (xs := (keysOf v.1.q)) encKy_len (.inr ⟨bz, oz, rfl⟩)) hky 0 (vs := [.int .u8 ky.s0, .int .u8 ky.s1, .int .u8 ky.s2, .int .u8 ky.s3]) (fun j u h => by match j, h with | 0, h => exact h | 1, h => exact h | 2, h => exact h | 3, h => exact h) j u hj))) rfl ?_
            refine R_pure 5 rfl (by kernel_rfl) (by kernel_rfl) (by kernel_rfl) (by kernel_rfl) (.inr ⟨_, Take.eq (A := Own 70 10 (.slice (some (ad bz oz)) (keysOf v.1.q).length z.2) (keysOf v.1.q).length (flatK (keysOf v.1.q)))⟩) (opv_move rfl) rfl ?_
            refine R_pure 6 rfl (by kernel_rfl) (by kernel_rfl) (by kernel_rfl) (by kernel_rfl) (.inr ⟨_, Take.eq (A := Own 70 10 (.slice (some (ad bz oz)) (keysOf v.1.q).length z.2) (keysOf v.1.q).length (flatK (keysOf v.1.q)))⟩) (opv_move rfl) rfl ?_
            first
              | refine R_pure 7 rfl (by kernel_rfl) (by kernel_rfl) (by kernel_rfl) (by kernel_rfl) (.inr ⟨_, Take.eq (A := Own 70 10 (.slice (some (ad bz oz)) (keysOf v.1.q).length z.2) (keysOf v.1.q).length (flatK (keysOf v.1.q)))⟩) (opv_indexAddr rfl rfl (by omega)) rfl ?_
              | refine R_pure 7 rfl (by kernel_rfl) (by kernel_rfl) (by kernel_rfl) (by kernel_rfl) (.inr ⟨_, Take.eq (A := Own 70 10 (.slice (some (ad bz oz)) (keysOf v.1.q).length z.2) (keysOf v.1.q).length (flatK (keysOf v.1.q)))⟩) (opv_indexAddrA rfl rfl (by omega)) rfl ?_
            first
              | refine R_pure 8 rfl (by kernel_rfl) (by kernel_rfl) (by kernel_rfl) (by kernel_rfl) (.inr ⟨_, Take.eq (A := Own 70 10 (.slice (some (ad bz oz)) (keysOf v.1.q).length z.2) (keysOf v.1.q).length (flatK (keysOf v.1.q)))⟩) (opv_fieldAddr0 rfl) rfl ?_
              | refine R_pure 8 rfl (by kernel_rfl) (by kernel_rfl) (by kernel_rfl) (by kernel_rfl) (.inr ⟨_, Take.eq (A := Own 70 10 (.slice (some (ad bz oz)) (keysOf v.1.q).length z.2) (keysOf v.1.q).length (flatK (keysOf v.1.q)))⟩) (opv_fieldAddr rfl) rfl ?_
            refine R_take 9 rfl (by kernel_rfl) (by kernel_rfl) (by kernel_rfl) (by kernel_rfl) (by kernel_rfl) (opv_loadN (vs := [.int .u8 ky.d0, .int .u8 ky.d1, .int .u8 ky.d2, .int .u8 ky.d3]) rfl rfl (fun j u hj => Rd.of_take (S := Own 70 10 (.slice (some (ad bz oz)) (keysOf v.1.q).length z.2) (keysOf v.1.q).length (flatK (keysOf v.1.q))) (RdS.rdf (RdS.own (m := 10) (e := 70) (c := z.2) (xs := (keysOf v.1.q)) encKy_len (.inr ⟨bz, oz, rfl⟩)) hky 4 (vs := [.int .u8 ky.d0, .int .u8 ky.d1, .int .u8 ky.d2, .int .u8 ky.d3]) (fun j u h => by match j, h with | 0, h => exact h | 1, h => exact h | 2, h => exact h | 3, h => exact h) j u hj))) rfl ?_
            refine R_pure 10 rfl (by kernel_rfl) (by kernel_rfl) (by kernel_rfl) (by kernel_rfl) (.inr ⟨_, Take.eq (A := Own 70 10 (.slice (some (ad bz oz)) (keysOf v.1.q).length z.2) (keysOf v.1.q).length (flatK (keysOf v.1.q)))⟩) (opv_move rfl) rfl ?_
            refine R_pure 11 rfl (by kernel_rfl) (by kernel_rfl) (by kernel_rfl) (by kernel_rfl) (.inr ⟨_, Take.eq (A := Own 70 10 (.slice (some (ad bz oz)) (keysOf v.1.q).length z.2) (keysOf v.1.q).length (flatK (keysOf v.1.q)))⟩) (opv_move rfl) rfl ?_
            first
              | refine R_pure 12 rfl (by kernel_rfl) (by kernel_rfl) (by kernel_rfl) (by kernel_rfl) (.inr ⟨_, Take.eq (A := Own 70 10 (.slice (some (ad bz oz)) (keysOf v.1.q).length z.2) (keysOf v.1.q).length (flatK (keysOf v.1.q)))⟩) (opv_indexAddr rfl rfl (by omega)) rfl ?_
              | refine R_pure 12 rfl (by kernel_rfl) (by kernel_rfl) (by kernel_rfl) (by kernel_rfl) (.inr ⟨_, Take.eq (A := Own 70 10 (.slice (some (ad bz oz)) (keysOf v.1.q).length z.2) (keysOf v.1.q).length (flatK (keysOf v.1.q)))⟩) (opv_indexAddrA rfl rfl (by omega)) rfl ?_
            first
              | refine R_pure 13 rfl (by kernel_rfl) (by kernel_rfl) (by kernel_rfl) (by kernel_rfl) (.inr ⟨_, Take.eq (A := Own 70 10 (.slice (some (ad bz oz)) (keysOf v.1.q).length z.2) (keysOf v.1.q).length (flatK (keysOf v.1.q)))⟩) (opv_fieldAddr0 rfl) rfl ?_
              | refine R_pure 13 rfl (by kernel_rfl) (by kernel_rfl) (by kernel_rfl) (by kernel_rfl) (.inr ⟨_, Take.eq (A := Own 70 10 (.slice (some (ad bz oz)) (keysOf v.1.q).length z.2) (keysOf v.1.q).length (flatK (keysOf v.1.q)))⟩) (opv_fieldAddr rfl) rfl ?_
            refine R_take 14 rfl (by kernel_rfl) (by kernel_rfl) (by kernel_rfl) (by kernel_rfl) (by kernel_rfl) (opv_load rfl (Rd.of_take (S := Own 70 10 (.slice (some (ad bz oz)) (keysOf v.1.q).length z.2) (keysOf v.1.q).length (flatK (keysOf v.1.q))) ((RdS.own (m := 10) (e := 70) (c := z.2) (xs := (keysOf v.1.q)) encKy_len (.inr ⟨bz, oz, rfl⟩)).rd bz oz rfl k ky 8 _ hky rfl))) rfl ?_
            refine R_pure 15 rfl (by kernel_rfl) (by kernel_rfl) (by kernel_rfl) (by kernel_rfl) (.inr ⟨_, Take.eq (A := Own 70 10 (.slice (some (ad bz oz)) (keysOf v.1.q).length z.2) (keysOf v.1.q).length (flatK (keysOf v.1.q)))⟩) (opv_move rfl) rfl ?_
            refine R_pure 16 rfl (by kernel_rfl) (by kernel_rfl) (by kernel_rfl) (by kernel_rfl) (.inr ⟨_, Take.eq (A := Own 70 10 (.slice (some (ad bz oz)) (keysOf v.1.q).length z.2) (keysOf v.1.q).length (flatK (keysOf v.1.q)))⟩) (opv_move rfl) rfl ?_
            first
              | refine R_pure 17 rfl (by kernel_rfl) (by kernel_rfl) (by kernel_rfl) (by kernel_rfl) (.inr ⟨_, Take.eq (A := Own 70 10 (.slice (some (ad bz oz)) (keysOf v.1.q).length z.2) (keysOf v.1.q).length (flatK (keysOf v.1.q)))⟩) (opv_indexAddr rfl rfl (by omega)) rfl ?_
              | refine R_pure 17 rfl (by kernel_rfl) (by kernel_rfl) (by kernel_rfl) (by kernel_rfl) (.inr ⟨_, Take.eq (A := Own 70 10 (.slice (some (ad bz oz)) (keysOf v.1.q).length z.2) (keysOf v.1.q).length (flatK (keysOf v.1.q)))⟩) (opv_indexAddrA rfl rfl (by omega)) rfl ?_
            first
              | refine R_pure 18 rfl (by kernel_rfl) (by kernel_rfl) (by kernel_rfl) (by kernel_rfl) (.inr ⟨_, Take.eq (A := Own 70 10 (.slice (some (ad bz oz)) (keysOf v.1.q).length z.2) (keysOf v.1.q).length (flatK (keysOf v.1.q)))⟩) (opv_fieldAddr0 rfl) rfl ?_
              | refine R_pure 18 rfl (by kernel_rfl) (by kernel_rfl) (by kernel_rfl) (by kernel_rfl) (.inr ⟨_, Take.eq (A := Own 70 10 (.slice (some (ad bz oz)) (keysOf v.1.q).length z.2) (keysOf v.1.q).length (flatK (keysOf v.1.q)))⟩) (opv_fieldAddr rfl) rfl ?_
            refine R_take 19 rfl (by kernel_rfl) (by kernel_rfl) (by kernel_rfl) (by kernel_rfl) (by kernel_rfl) (opv_load rfl (Rd.of_take (S := Own 70 10 (.slice (some (ad bz oz)) (keysOf v.1.q).length z.2) (keysOf v.1.q).length (flatK (keysOf v.1.q))) ((RdS.own (m := 10) (e := 70) (c := z.2) (xs := (keysOf v.1.q)) encKy_len (.inr ⟨bz, oz, rfl⟩)).rd bz oz rfl k ky 9 _ hky rfl))) rfl ?_
            refine R_pure 20 rfl (by kernel_rfl) (by kernel_rfl) (by kernel_rfl) (by kernel_rfl) (.inr ⟨_, Take.eq (A := Own 70 10 (.slice (some (ad bz oz)) (keysOf v.1.q).length z.2) (keysOf v.1.q).length (flatK (keysOf v.1.q)))⟩) (opv_build rfl) rfl ?_
            refine R_all [21, 22] (by kernel_rfl) rfl fun i hi => ?_
            simp only [List.mem_cons, List.not_mem_nil, or_false] at hi
            rcases hi with rfl | rfl
            · refine ⟨_, _, _, _, _, rfl, rfl, (opx_call0 (Plain_ky ky hkA) rfl rfl rfl), fun _ _ => ⟨⟨_, Take.eq (A := Own 70 10 (.slice (some (ad bz oz)) (keysOf v.1.q).length z.2) (keysOf v.1.q).length (flatK (keysOf v.1.q)))⟩, .inr ⟨_, Take.eq (A := Own 70 10 (.slice (some (ad bz oz)) (keysOf v.1.q).length z.2) (keysOf v.1.q).length (flatK (keysOf v.1.q)))⟩, ?_⟩⟩
              refine Rg_emp ?_
              refine R_only 22 rfl rfl (by kernel_rfl) (opx_alloc rfl) (fun _ _ => ⟨_, Take.eq (A := Own 70 10 (.slice (some (ad bz oz)) (keysOf v.1.q).length z.2) (keysOf v.1.q).length (flatK (keysOf v.1.q)))⟩) (.inr fun _ _ => ⟨_, Take.eq (A := Own 70 10 (.slice (some (ad bz oz)) (keysOf v.1.q).length z.2) (keysOf v.1.q).length (flatK (keysOf v.1.q)))⟩) (fun b21 _ => ?_)
              refine R_only 23 rfl rfl (by kernel_rfl) (opx_store rfl rfl rfl (by simp [Value.oneCell'])) (fun _ _ => ⟨_, Take.eq (A := Own 70 10 (.slice (some (ad bz oz)) (keysOf v.1.q).length z.2) (keysOf v.1.q).length (flatK (keysOf v.1.q)))⟩) (.inr fun _ _ => ⟨_, Take.eq (A := Own 70 10 (.slice (some (ad bz oz)) (keysOf v.1.q).length z.2) (keysOf v.1.q).length (flatK (keysOf v.1.q)))⟩) (fun _ _ => ?_)
              refine R_done (by kernel_rfl) ?_
              refine K_then ?_
              refine J_seq ?_
              refine J_quiet Try.mixed (by kernel_rfl) ?_
              refine Q_v (opv_loadS rfl) rfl ?_
              refine Q_v (opv_move rfl) rfl ?_
              refine Q_v (opv_nilCheck rfl) rfl ?_
              first
                | refine Q_v (opv_fieldAddr0 rfl) rfl ?_
                | refine Q_v (opv_fieldAddr rfl) rfl ?_
              refine Q_v (opv_load rfl (Rd.look rfl)) rfl ?_
              refine Q_v (opv_move rfl) rfl ?_
              first
                | refine Q_v (opv_indexAddr rfl rfl (by omega)) rfl ?_
                | refine Q_v (opv_indexAddrA rfl rfl (by omega)) rfl ?_
              first
                | refine Q_v (opv_fieldAddr0 rfl) rfl ?_
                | refine Q_v (opv_fieldAddr rfl) rfl ?_
              refine Q_v (opv_loadN (vs := [.int .i64 yb.p.id, .bool yb.p.more, .int .i64 yb.p.off, .int .i64 yb.p.ttl, .int .i64 yb.p.proto, .string (bytesL [yb.p.s0, yb.p.s1, yb.p.s2, yb.p.s3]), .string (bytesL [yb.p.d0, yb.p.d1, yb.p.d2, yb.p.d3]), .string yb.p.data]) rfl rfl (fun j u hj => Rd.of_take (S := Own 73 10 (.slice (some (ad b2 o2)) v.2.1.length v.2.2.2) v.2.1.length (v.2.1.flatMap encB)) (RdS.rdf (RdS.own (m := 10) (e := 73) (c := v.2.2.2) (xs := v.2.1) encB_len (.inr ⟨b2, o2, rfl⟩)) hyb 0 (vs := [.int .i64 yb.p.id, .bool yb.p.more, .int .i64 yb.p.off, .int .i64 yb.p.ttl, .int .i64 yb.p.proto, .string (bytesL [yb.p.s0, yb.p.s1, yb.p.s2, yb.p.s3]), .string (bytesL [yb.p.d0, yb.p.d1, yb.p.d2, yb.p.d3]), .string yb.p.data]) (fun j u h => by match j, h with | 0, h => exact h | 1, h => exact h | 2, h => exact h | 3, h => exact h | 4, h => exact h | 5, h => exact h | 6, h => exact h | 7, h => exact h) j u hj))) rfl ?_
              refine Q_call (RSame_spec (⟨ky.id, false, 0, 0, ky.proto, ky.s0, ky.s1, ky.s2, ky.s3, ky.d0, ky.d1, ky.d2, ky.d3, ⟨#[]⟩⟩ : Pk) yb.p hkA (vB yb (List.mem_of_getElem? hyb))) rfl rfl (fun _ _ => rfl) (fun _ _ => Ent.refl _) rfl ?_
              refine Q_v ((opv_notD rfl).as (v' := .bool false) (congrArg Value.bool (decide_eq_false (fun g => g hkk2)))) rfl ?_
              refine QL_nil ?_
              refine K_then ?_
              refine J_cond_false rfl ?_
              refine J_skip ?_
              refine K_block ?_
              refine K_then ?_
              refine J_region ?_
              refine L_v (opv_move rfl) rfl ?_
              first
                | refine L_v (opv_add64 rfl rfl (by omega)) rfl ?_
                | refine L_v (opv_addS rfl rfl (by omega)) rfl ?_
                | refine L_v (opv_add rfl rfl) rfl ?_
              refine L_v (opv_assign rfl) rfl ?_
              refine L_nil ?_
              rw [← hze, ← hve]
              exact K_loop (k + 1) (by omega) (by omega) ⟨rfl, rfl, rfl, rfl, rfl, rfl, trivial⟩ Ent.take
            · refine ⟨_, _, _, _, _, rfl, rfl, (opx_alloc rfl), fun b21 _ => ⟨⟨_, Take.eq (A := Own 70 10 (.slice (some (ad bz oz)) (keysOf v.1.q).length z.2) (keysOf v.1.q).length (flatK (keysOf v.1.q)))⟩, .inr ⟨_, Take.eq (A := Own 70 10 (.slice (some (ad bz oz)) (keysOf v.1.q).length z.2) (keysOf v.1.q).length (flatK (keysOf v.1.q)))⟩, ?_⟩⟩
              refine R_only 21 rfl rfl (by kernel_rfl) (opx_call0 (Plain_ky ky hkA) rfl rfl rfl) (fun _ _ => ⟨_, Take.eq (A := Own 70 10 (.slice (some (ad bz oz)) (keysOf v.1.q).length z.2) (keysOf v.1.q).length (flatK (keysOf v.1.q)))⟩) (.inr fun _ _ => ⟨_, Take.eq (A := Own 70 10 (.slice (some (ad bz oz)) (keysOf v.1.q).length z.2) (keysOf v.1.q).length (flatK (keysOf v.1.q)))⟩) (fun _ _ => ?_)
              refine Rg_emp ?_
              refine R_only 23 rfl rfl (by kernel_rfl) (opx_store rfl rfl rfl (by simp [Value.oneCell'])) (fun _ _ => ⟨_, Take.eq (A := Own 70 10 (.slice (some (ad bz oz)) (keysOf v.1.q).length z.2) (keysOf v.1.q).length (flatK (keysOf v.1.q)))⟩) (.inr fun _ _ => ⟨_, Take.eq (A := Own 70 10 (.slice (some (ad bz oz)) (keysOf v.1.q).length z.2) (keysOf v.1.q).length (flatK (keysOf v.1.q)))⟩) (fun _ _ => ?_)
              refine R_done (by kernel_rfl) ?_
              refine K_then ?_
              refine J_seq ?_
              refine J_quiet Try.mixed (by kernel_rfl) ?_
              refine Q_v (opv_loadS rfl) rfl ?_
              refine Q_v (opv_move rfl) rfl ?_
              refine Q_v (opv_nilCheck rfl) rfl ?_
              first
                | refine Q_v (opv_fieldAddr0 rfl) rfl ?_
                | refine Q_v (opv_fieldAddr rfl) rfl ?_
              refine Q_v (opv_load rfl (Rd.look rfl)) rfl ?_
              refine Q_v (opv_move rfl) rfl ?_
              first
                | refine Q_v (opv_indexAddr rfl rfl (by omega)) rfl ?_
                | refine Q_v (opv_indexAddrA rfl rfl (by omega)) rfl ?_
              first
                | refine Q_v (opv_fieldAddr0 rfl) rfl ?_
                | refine Q_v (opv_fieldAddr rfl) rfl ?_
              refine Q_v (opv_loadN (vs := [.int .i64 yb.p.id, .bool yb.p.more, .int .i64 yb.p.off, .int .i64 yb.p.ttl, .int .i64 yb.p.proto, .string (bytesL [yb.p.s0, yb.p.s1, yb.p.s2, yb.p.s3]), .string (bytesL [yb.p.d0, yb.p.d1, yb.p.d2, yb.p.d3]), .string yb.p.data]) rfl rfl (fun j u hj => Rd.of_take (S := Own 73 10 (.slice (some (ad b2 o2)) v.2.1.length v.2.2.2) v.2.1.length (v.2.1.flatMap encB)) (RdS.rdf (RdS.own (m := 10) (e := 73) (c := v.2.2.2) (xs := v.2.1) encB_len (.inr ⟨b2, o2, rfl⟩)) hyb 0 (vs := [.int .i64 yb.p.id, .bool yb.p.more, .int .i64 yb.p.off, .int .i64 yb.p.ttl, .int .i64 yb.p.proto, .string (bytesL [yb.p.s0, yb.p.s1, yb.p.s2, yb.p.s3]), .string (bytesL [yb.p.d0, yb.p.d1, yb.p.d2, yb.p.d3]), .string yb.p.data]) (fun j u h => by match j, h with | 0, h => exact h | 1, h => exact h | 2, h => exact h | 3, h => exact h | 4, h => exact h | 5, h => exact h | 6, h => exact h | 7, h => exact h) j u hj))) rfl ?_
              refine Q_call (RSame_spec (⟨ky.id, false, 0, 0, ky.proto, ky.s0, ky.s1, ky.s2, ky.s3, ky.d0, ky.d1, ky.d2, ky.d3, ⟨#[]⟩⟩ : Pk) yb.p hkA (vB yb (List.mem_of_getElem? hyb))) rfl rfl (fun _ _ => rfl) (fun _ _ => Ent.refl _) rfl ?_
              refine Q_v ((opv_notD rfl).as (v' := .bool false) (congrArg Value.bool (decide_eq_false (fun g => g hkk2)))) rfl ?_
              refine QL_nil ?_
              refine K_then ?_
              refine J_cond_false rfl ?_
              refine J_skip ?_
              refine K_block ?_
              refine K_then ?_
              refine J_region ?_
              refine L_v (opv_move rfl) rfl ?_
              first
                | refine L_v (opv_add64 rfl rfl (by omega)) rfl ?_
                | refine L_v (opv_addS rfl rfl (by omega)) rfl ?_
                | refine L_v (opv_add rfl rfl) rfl ?_
              refine L_v (opv_assign rfl) rfl ?_
              refine L_nil ?_
              rw [← hze, ← hve]
              exact K_loop (k + 1) (by omega) (by omega) ⟨rfl, rfl, rfl, rfl, rfl, rfl, trivial⟩ Ent.take
          · refine J_exit ?_
            refine K_then_exit ?_
            refine K_then_exit ?_
            refine K_block_here ?_
            refine K_block ?_
            refine K_then ?_
            refine J_region ?_
            refine L_v (opv_move rfl) rfl ?_
            first
              | refine L_v (opv_add64 rfl rfl (by omega)) rfl ?_
              | refine L_v (opv_addS rfl rfl (by omega)) rfl ?_
              | refine L_v (opv_add rfl rfl) rfl ?_
            refine L_v (opv_assign rfl) rfl ?_
            refine L_nil ?_
            exact K_loop ((y.1 + 1, v)) ⟨by dsimp only; omega, by dsimp only; omega, ⟨vT, vS, vq, vB⟩⟩ (by dsimp only; omega) ⟨rfl, rfl, rfl, rfl, trivial⟩ Ent.take
    · refine J_exit ?_
      refine K_then_exit ?_
      refine K_then_exit ?_
      refine K_block_here ?_
      refine K_then ?_
      refine J_seq ?_
      refine J_region ?_
      refine L_x rfl (opx_call0 (rawake_spec) rfl rfl rfl) (fun _ _ => ?_)
      refine L_emp ?_
      refine L_v (opv_assign rfl) rfl ?_
      refine L_nil ?_
      refine K_then ?_
      refine J_ret ?_
      exact K_ret1 rfl rfl () trivial (rfl) Ent.take
  · refine L_gt_off h1 rfl rfl ?_ (fun _ h => by cases h; rfl)
    refine L_v (opv_pick_f rfl h1 rfl) rfl ?_
    refine L_nil ?_
    refine K_then ?_
    refine J_cond_false rfl ?_
    refine J_exit ?_
    refine K_then_exit ?_
    refine K_then_exit ?_
    refine K_block_here ?_
    refine K_then ?_
    refine J_seq ?_
    refine J_region ?_
    refine L_x rfl (opx_call0 (rawake_spec) rfl rfl rfl) (fun _ _ => ?_)
    refine L_emp ?_
    refine L_v (opv_assign rfl) rfl ?_
    refine L_nil ?_
    refine K_then ?_
    refine J_ret ?_
    exact K_ret1 rfl rfl () trivial (rfl) Ent.take


theorem ReasmPlays_law (W : World) (m wt : Int) (A : Option Addr) (len c : Nat) (xs : List Op9) (ok : ∀ x ∈ xs, okOp9 x) (h : ArrIn W encOp9 16 A len xs) (hl : len ≤ c) (hc : c ≤ maxLen) : FSpec Try.prog 8 #[.int .i64 m, .int .i64 wt, .slice A len c] (old W) (fun _ : Unit => True) (fun _ => .bool true) (fun _ => old W) := by
  have e := h.1
  subst e
  have hn : xs.length ≤ 9223372036854775807 := by unfold maxLen at hc; omega
  by_cases hb : 1 ≤ m ∧ m ≤ 64 ∧ 0 ≤ wt ∧ wt ≤ 1125899906842624
  · exact RY_ok W m wt A c xs (RdS.old h) hn ok hb.1 hb.2.1 hb.2.2.1 hb.2.2.2
  · exact RY_bad W m wt A c xs (RdS.old h) hn hb

end Go.Proofs.Ytjpbpfihacfndaa
namespace Go.Proofs.Ytjpbpfihacfndaa.reasmPlays
open Go.ChangeShapes Go.WideShapes Go.ChangeAt Go.RowKit Go.SLA
open Go.ChangeMaps (open_string shut_string)
set_option linter.unusedVariables false
theorem own : ownKnob Try.prog.godebug = none := by kernel_rfl
theorem laidOut : laidOutB Try.prog = true := by kernel_rfl
set_option maxRecDepth 100000 in
theorem lifted (os : Os) (started : os.Started) (H : Type) (enc : TypeId × Value → H) :
    ReturnsInHanded {} Try.checked os 8 .any (Rows.reasmPlaysSpec.pre6 enc Try.prog Try.f8 Rows.reasmPlaysRow.domain false) (Rows.reasmPlaysSpec.post enc Try.prog Try.f8 false true false false) := by
  refine returnsInHanded_of_change_sized (C := Try.checked) own started (by kernel_rfl) Try.func8
    (ChangeSpec.witness6 (enc := enc) (C := Try.checked) false ⟨#[], #[.int .i64 0, .int .i64 0, .slice none 0 0], []⟩ 8 (by kernel_rfl) (by kernel_rfl) (by kernel_rfl) (by kernel_rfl)) ?_
  intro W base args ds gs before hval0 hW hcnd hsz0 _
  have hsz : (DataW.weightsEach Try.prog (Try.f8.params.toList ++ Rows.reasmPlaysSpec.plain.varTypes Try.prog) (ds ++ gs)).all (· ≤ reachBytes) = true := hsz0
  have hval : ∀ (j : Nat) t v, Try.f8.params[j]? = some t → args[j]? = some v → Value.okWide Try.prog W .any base t v := hval0
  have hW' := hW
  obtain ⟨p, q, hA0, hV, rfl, hfz, hnd⟩ := hW
  have hA : DataW.TrodAll enc Try.prog W 0 (fun _ => true) true Try.f8.params.toList args.toList ds p := hA0
  rw [Try.params8] at hA hval hsz
  obtain ⟨v0, vs0, d0, ds0, p0, q0, hargs, rfl, rfl, h0, r0⟩ := trodAll_cons hA
  obtain ⟨v1, vs1, d1, ds1, p1, q1, rfl, rfl, rfl, h1, r1⟩ := trodAll_cons r0
  obtain ⟨v2, vs2, d2, ds2, p2, q2, rfl, rfl, rfl, h2, r2⟩ := trodAll_cons r1
  obtain ⟨rfl, rfl, rfl⟩ := trodAll_nil r2
  obtain rfl : args = #[v0, v1, v2] := by cases args; simp_all
  obtain ⟨rfl, rfl⟩ := trodVars_none hV
  have k0 := h0
  have lt0 : ∀ x ∈ p0, x.block < W.heap.size := by obtain ⟨m, hm⟩ := k0; exact DataW.trod_lt m _ _ _ hm
  obtain ⟨a0, rfl, rfl, rfl, w0⟩ := open_int Try.underlying3 (hval 0 3 v0 rfl rfl) h0
  have k1 := h1
  have lt1 : ∀ x ∈ p1, x.block < W.heap.size := by obtain ⟨m, hm⟩ := k1; exact DataW.trod_lt m _ _ _ hm
  obtain ⟨a1, rfl, rfl, rfl, w1⟩ := open_int Try.underlying3 (hval 1 3 v1 rfl rfl) h1
  have k2 := h2
  have lt2 : ∀ x ∈ p2, x.block < W.heap.size := by obtain ⟨m, hm⟩ := k2; exact DataW.trod_lt m _ _ _ hm
  obtain ⟨A2, len2, cap2, xs2, rfl, hl2, hc2, harr2, hok2⟩ := open_arr (D := 7) (ks := ksOp9) (en := encOp9) (ok := okOp9) Try.underlying49 (by kernel_rfl) (by kernel_rfl) (by decide) (fun cs h => decOp9 cs h) (hval 2 49 v2 rfl rfl) h2
  clear hA0 hval0 hsz0 hsz
  refine (FSpec.law (ReasmPlays_law W a0 a1 A2 len2 cap2 xs2 hok2 harr2 hl2 hc2)).mono fun e W' ⟨he, bel⟩ => ?_
  subst he
  exact ⟨_, rfl, _, _, _, [], _, [], hW', trodAll_mk1 (shut_bool Try.underlying4 _), (trodAll_cons_mk (Below.trod laidOut (by kernel_rfl) (of_decide_eq_true (by kernel_rfl)) k0 bel lt0) (trodAll_cons_mk (Below.trod laidOut (by kernel_rfl) (of_decide_eq_true (by kernel_rfl)) k1 bel lt1) (trodAll_cons_mk (Below.trod laidOut (by kernel_rfl) (of_decide_eq_true (by kernel_rfl)) k2 bel lt2) trodAll_mk0))), rfl, bel.frame _, fun h => by cases h⟩
theorem over : Rows.reasmPlaysRow.holds Try.pinned (OpenSpec.ofChange Rows.reasmPlaysSpec) :=
  OpenClaim.holds_of_wide 8 Try.f8 rfl rfl rfl rfl rfl rfl rfl ⟨rfl, rfl, rfl, rfl, rfl⟩ rfl rfl rfl rfl rfl (by kernel_rfl) Try.func8 (by kernel_rfl)
    (of_decide_eq_true (by kernel_rfl)) (by unfold Func.isWrapper; first | (rw [if_pos (by decide +kernel)]; kernel_rfl) | (rw [if_neg (by decide +kernel)]; exact ⟨rfl, rfl⟩))
    (fun os started H enc _ => lifted os started H enc)
end Go.Proofs.Ytjpbpfihacfndaa.reasmPlays
namespace Go.Proofs.Ytjpbpfihacfndaa
theorem reasmPlays_holds : Rows.ReasmPlaysSaid := reasmPlays.over
#print axioms reasmPlays_holds
end Go.Proofs.Ytjpbpfihacfndaa
namespace Go.Proofs.Ytjpbpfihacfndaa
open Go.SLA
end Go.Proofs.Ytjpbpfihacfndaa
