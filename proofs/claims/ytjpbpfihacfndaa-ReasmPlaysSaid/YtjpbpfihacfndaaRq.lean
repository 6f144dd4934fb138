/- The document's table answers what ours answers: contracts of its New, Pass and Put beside what ours do; used by the text that imports this one. -/
import Derived.Test.YtjpbpfihacfndaaRp
import Derived.Test.YtjpbpfihacfndaaH
namespace Go.Proofs.Ytjpbpfihacfndaa
open Go.SLA
set_option maxRecDepth 100000
set_option linter.unusedVariables false
set_option linter.unusedSimpArgs false
attribute [local irreducible] J L K QL Rg FSpec OpV OpX Rd Back
theorem RNew_err (a c : Int) (h : ¬ (1 ≤ a ∧ a ≤ 64 ∧ 0 ≤ c ∧ c ≤ 1125899906842624)) : FSpec Try.prog 28 #[.int .i64 a, .int .i64 c] (emp) (fun _ : Unit => True) (fun _ => .tuple #[.pointer none, .int .i64 1]) (fun _ => emp) := by
  refine FSpec.enter' Try.func28 rfl Try.ntmps28 rfl fun σ F => ?_
  refine J_seq ?_
  refine J_region ?_
  refine L_v (opv_assign rfl) rfl ?_
  refine L_v (opv_assign rfl) rfl ?_
  refine L_nil ?_
  refine K_then ?_
  refine J_seq ?_
  refine J_seq ?_
  refine J_region ?_
  refine L_v (opv_move rfl) rfl ?_
  refine L_v (opv_lss rfl rfl) rfl ?_
  refine L_v (opv_move rfl) rfl ?_
  refine L_gf rfl rfl (fun h1 => ?_) (fun h1 => ?_) (fun _ h => by cases h; rfl)
  · refine L_v (opv_move rfl) rfl ?_
    refine L_gf_on h1 rfl rfl ?_
    refine L_v (opv_gtr rfl rfl) rfl ?_
    refine L_v (opv_pick_f rfl h1 rfl) rfl ?_
    refine L_v (opv_move rfl) rfl ?_
    refine L_gf rfl rfl (fun h2 => ?_) (fun h2 => ?_) (fun _ h => by cases h; rfl)
    · refine L_v (opv_move rfl) rfl ?_
      refine L_gf_on h2 rfl rfl ?_
      refine L_v (opv_lss rfl rfl) rfl ?_
      refine L_v (opv_pick_f rfl h2 rfl) rfl ?_
      refine L_v (opv_move rfl) rfl ?_
      refine L_gf rfl rfl (fun h3 => ?_) (fun h3 => ?_) (fun _ h => by cases h; rfl)
      · refine L_v (opv_move rfl) rfl ?_
        refine L_gf_on h3 rfl rfl ?_
        refine L_v (opv_gtr rfl rfl) rfl ?_
        refine L_v (opv_pick_f rfl h3 rfl) rfl ?_
        refine L_nil ?_
        refine K_then ?_
        refine J_cond rfl (fun h4 => ?_) (fun h4 => absurd ⟨by omega, by omega, by omega, by omega⟩ h)
        refine J_seq ?_
        refine J_region ?_
        refine L_v (opv_assign rfl) rfl ?_
        refine L_v (opv_assign rfl) rfl ?_
        refine L_nil ?_
        refine K_then ?_
        refine J_ret ?_
        refine K_then_ret ?_
        exact K_ret2 rfl rfl rfl () trivial rfl (Ent.refl _)
      · refine L_gf_off h3 rfl rfl ?_ (fun _ h => by cases h; rfl)
        refine L_v (opv_pick_t rfl h3 rfl) rfl ?_
        refine L_nil ?_
        refine K_then ?_
        refine J_cond_true rfl ?_
        refine J_seq ?_
        refine J_region ?_
        refine L_v (opv_assign rfl) rfl ?_
        refine L_v (opv_assign rfl) rfl ?_
        refine L_nil ?_
        refine K_then ?_
        refine J_ret ?_
        refine K_then_ret ?_
        exact K_ret2 rfl rfl rfl () trivial rfl (Ent.refl _)
    · refine L_gf_off h2 rfl rfl ?_ (fun _ h => by cases h; rfl)
      refine L_v (opv_pick_t rfl h2 rfl) rfl ?_
      refine L_v (opv_move rfl) rfl ?_
      refine L_gskip rfl rfl rfl ?_ (fun _ h => by cases h; rfl)
      refine L_gskip rfl rfl rfl ?_ (fun _ h => by cases h; rfl)
      first
        | refine L_v (opv_pick_tt rfl rfl) rfl ?_
        | refine L_v (opv_pick_ff rfl rfl) rfl ?_
        | refine L_v (opv_pick rfl rfl rfl) rfl ?_
      refine L_nil ?_
      refine K_then ?_
      refine J_cond_true rfl ?_
      refine J_seq ?_
      refine J_region ?_
      refine L_v (opv_assign rfl) rfl ?_
      refine L_v (opv_assign rfl) rfl ?_
      refine L_nil ?_
      refine K_then ?_
      refine J_ret ?_
      refine K_then_ret ?_
      exact K_ret2 rfl rfl rfl () trivial rfl (Ent.refl _)
  · refine L_gf_off h1 rfl rfl ?_ (fun _ h => by cases h; rfl)
    refine L_v (opv_pick_t rfl h1 rfl) rfl ?_
    refine L_v (opv_move rfl) rfl ?_
    refine L_gskip rfl rfl rfl ?_ (fun _ h => by cases h; rfl)
    refine L_gskip rfl rfl rfl ?_ (fun _ h => by cases h; rfl)
    first
      | refine L_v (opv_pick_tt rfl rfl) rfl ?_
      | refine L_v (opv_pick_ff rfl rfl) rfl ?_
      | refine L_v (opv_pick rfl rfl rfl) rfl ?_
    refine L_v (opv_move rfl) rfl ?_
    refine L_gskip rfl rfl rfl ?_ (fun _ h => by cases h; rfl)
    refine L_gskip rfl rfl rfl ?_ (fun _ h => by cases h; rfl)
    first
      | refine L_v (opv_pick_tt rfl rfl) rfl ?_
      | refine L_v (opv_pick_ff rfl rfl) rfl ?_
      | refine L_v (opv_pick rfl rfl rfl) rfl ?_
    refine L_nil ?_
    refine K_then ?_
    refine J_cond_true rfl ?_
    refine J_seq ?_
    refine J_region ?_
    refine L_v (opv_assign rfl) rfl ?_
    refine L_v (opv_assign rfl) rfl ?_
    refine L_nil ?_
    refine K_then ?_
    refine J_ret ?_
    refine K_then_ret ?_
    exact K_ret2 rfl rfl rfl () trivial rfl (Ent.refl _)

theorem RNew_ok (a c : Int) (ha : 1 ≤ a ∧ a ≤ 64) (hc : 0 ≤ c ∧ c ≤ 1125899906842624) : FSpec Try.prog 28 #[.int .i64 a, .int .i64 c] (emp) (fun p : Nat => True) (fun p => .tuple #[.pointer (some (ad p 0)), .int .i64 0]) (fun p => cel p [.slice none 0 0, .int .i64 a, .int .i64 c, .int .i64 0, .int .i64 0] 67) := by
  refine FSpec.enter' Try.func28 rfl Try.ntmps28 rfl fun σ F => ?_
  refine J_emp ?_
  refine J_seq ?_
  refine J_region ?_
  refine L_v (opv_assign rfl) rfl ?_
  refine L_v (opv_assign rfl) rfl ?_
  refine L_nil ?_
  refine K_then ?_
  refine J_seq ?_
  refine J_seq ?_
  refine J_region ?_
  refine L_v (opv_move rfl) rfl ?_
  refine L_v ((opv_lss rfl rfl).bool_f (by omega)) rfl ?_
  refine L_v (opv_move rfl) rfl ?_
  refine L_gon rfl rfl rfl ?_
  refine L_v (opv_move rfl) rfl ?_
  refine L_gon rfl rfl rfl ?_
  refine L_v ((opv_gtr rfl rfl).bool_f (by omega)) rfl ?_
  first
    | refine L_v (opv_pick_tt rfl rfl) rfl ?_
    | refine L_v (opv_pick_ff rfl rfl) rfl ?_
    | refine L_v (opv_pick rfl rfl rfl) rfl ?_
  refine L_v (opv_move rfl) rfl ?_
  refine L_gon rfl rfl rfl ?_
  refine L_v (opv_move rfl) rfl ?_
  refine L_gon rfl rfl rfl ?_
  refine L_v ((opv_lss rfl rfl).bool_f (by omega)) rfl ?_
  first
    | refine L_v (opv_pick_tt rfl rfl) rfl ?_
    | refine L_v (opv_pick_ff rfl rfl) rfl ?_
    | refine L_v (opv_pick rfl rfl rfl) rfl ?_
  refine L_v (opv_move rfl) rfl ?_
  refine L_gon rfl rfl rfl ?_
  refine L_v (opv_move rfl) rfl ?_
  refine L_gon rfl rfl rfl ?_
  refine L_v ((opv_gtr rfl rfl).bool_f (by omega)) rfl ?_
  first
    | refine L_v (opv_pick_tt rfl rfl) rfl ?_
    | refine L_v (opv_pick_ff rfl rfl) rfl ?_
    | refine L_v (opv_pick rfl rfl rfl) rfl ?_
  refine L_nil ?_
  refine K_then ?_
  refine J_cond_false rfl ?_
  refine J_skip ?_
  refine K_then ?_
  refine J_seq ?_
  refine J_region ?_
  refine L_v (opv_move rfl) rfl ?_
  refine L_v (opv_move rfl) rfl ?_
  refine L_v (opv_build rfl) rfl ?_
  refine L_x rfl (opx_box rfl rfl) (fun p _ => ?_)
  refine L_v (opv_assign rfl) rfl ?_
  refine L_v (opv_assign rfl) rfl ?_
  refine L_nil ?_
  refine K_then ?_
  refine J_ret ?_
  exact K_ret2 rfl rfl rfl p trivial rfl Ent.take


def aS (q : Pk) (ok : Bool) : ByteArray := if ok = true then bytesL [q.s0, q.s1, q.s2, q.s3] else ⟨#[]⟩
def aD (q : Pk) (ok : Bool) : ByteArray := if ok = true then bytesL [q.d0, q.d1, q.d2, q.d3] else ⟨#[]⟩
def passT (T : TS) (wt now : Int) : TS := if timC T.now now = 0 then T.pass wt now else T
theorem B_len {B : List Bgr} {q : List Bg} (h : qB B = q) : B.length = q.length := by rw [← h, qB_len]
theorem B_mem {B : List Bgr} {T : TS} {n : Nat} (hT : TOk n T) (hq : qB B = T.q) : ∀ b ∈ B, (0 ≤ b.t ∧ b.t ≤ 1125899906842624) ∧ b.data.size ≤ 8200 := fun b hb => hT.bg b.bg (by rw [← hq]; exact List.mem_map_of_mem hb)
theorem B_pass {B : List Bgr} {T : TS} {wt now : Int} (hs : Srt T) (hq : qB B = T.q) : qB (B.filter (keepB wt now)) = (T.pass wt now).q ∧ T.dr + B.length - (B.filter (keepB wt now)).length = (T.pass wt now).dr := by
  have h := pass_filter (wt := wt) (now := now) hs.1
  have e1 : qB (B.filter (keepB wt now)) = T.q.filter (fun b => decide (now - b.t ≤ wt)) := by rw [filterB, hq]
  refine ⟨e1.trans h.1.symm, ?_⟩
  show _ = T.dr + ((T.q.takeWhile (late wt now)).length : Int)
  rw [B_len e1, B_len hq]
  have := h.2
  omega
theorem B_okf {B : List Bgr} {wt now : Int} (hB : ∀ b ∈ B, okA b.p) : ∀ b ∈ B.filter (keepB wt now), okA b.p := fun b hb => hB b (List.mem_filter.1 hb).1
theorem B_idx {B : List Bgr} {q : List Bg} {x : Pk} (h : qB B = q) : fB B x = fix (keysOf q) (kyOf x) := by unfold fB; rw [h]
theorem B_hit {B : List Bgr} {q : List Bg} {x : Pk} (h : qB B = q) : fB B x < B.length ↔ kyOf x ∈ keysOf q := by
  rw [B_idx h, B_len h, ← keysOf_len q]
  constructor
  · intro g
    exact List.mem_of_getElem? (fix_at g).1
  · intro g
    exact List.findIdx_lt_length_of_exists ⟨kyOf x, g, by simp⟩
theorem B_get {B : List Bgr} {q : List Bg} {x : Pk} (h : qB B = q) : bfind q (kyOf x) = (B[fB B x]?).map Bgr.bg := by
  rw [bfind_fix, B_idx h, ← h]
  unfold qB
  rw [List.getElem?_map]
theorem B_drop {B : List Bgr} {q : List Bg} {x : Pk} (h : qB B = q) (hn : (keysOf q).Nodup) (hf : fB B x < B.length) : qB (B.take (fB B x) ++ B.drop (fB B x + 1)) = wob q (kyOf x) := by
  rw [wob_erase hn ((B_hit h).1 hf), ← B_idx h, ← h]
  unfold qB
  rw [List.map_append, List.map_take, List.map_drop]
theorem B_okd {B : List Bgr} {i : Nat} (hB : ∀ b ∈ B, okA b.p) : ∀ b ∈ B.take i ++ B.drop (i + 1), okA b.p := fun b hb => by
  rcases List.mem_append.1 hb with g | g
  · exact hB b (List.mem_of_mem_take g)
  · exact hB b (List.mem_of_mem_drop g)
theorem B_set {B : List Bgr} {q : List Bg} {x : Pk} {y : Bgr} {d : ByteArray} (h : qB B = q) (hn : (keysOf q).Nodup) (hy : B[fB B x]? = some y) : qB (B.set (fB B x) ⟨y.p, y.t, y.data ++ d⟩) = upd q (kyOf x) d := by
  have hg : q[fix (keysOf q) (kyOf x)]? = some y.bg := by
    rw [← B_idx h, ← h]
    unfold qB
    rw [List.getElem?_map, hy]
    rfl
  rw [upd_set hn hg, ← B_idx h, ← h]
  unfold qB
  rw [List.map_set]
  rfl
theorem B_oks {B : List Bgr} {i : Nat} {y : Bgr} {d : ByteArray} (hB : ∀ b ∈ B, okA b.p) (hy : B[i]? = some y) : ∀ b ∈ B.set i ⟨y.p, y.t, d⟩, okA b.p := fun b hb => by
  rcases List.mem_or_eq_of_mem_set hb with g | rfl
  · exact hB b g
  · exact hB y (List.mem_of_getElem? hy)
theorem snd0 {x : Pk} (ho : x.off = 0) (hm : x.more = true) : sndC x 0 = if x.data.size = 0 ∨ x.data.size % 8 ≠ 0 then 15 else if 8200 < x.data.size then 11 else 0 := by
  unfold sndC
  rw [if_neg (by omega)]
  by_cases h : x.data.size = 0 ∨ x.data.size % 8 ≠ 0
  · rw [if_pos ⟨hm, h⟩, if_pos h]
  · rw [if_neg (fun g => h g.2), if_neg h, Nat.zero_add]
theorem beg_eq {m now : Int} {B2 : List Bgr} {T1 : TS} {x : Pk} (ho : x.off = 0) (hm : x.more = true) (hx : okA x) (h : qB B2 = (T1.free (kyOf x)).q) (hnow : (T1.free (kyOf x)).now = now) (hB : ∀ b ∈ B2, okA b.p) : (begB m now B2 x).1 = (T1.begn m x).1 ∧ qB (begB m now B2 x).2 = (T1.begn m x).2.q ∧ (T1.begn m x).2.now = now ∧ (T1.begn m x).2.dr = (T1.free (kyOf x)).dr ∧ ∀ b ∈ (begB m now B2 x).2, okA b.p := by
  have hz := snd0 ho hm
  unfold begB
  by_cases h1 : x.data.size = 0 ∨ x.data.size % 8 ≠ 0
  · rw [if_pos h1] at hz ⊢
    rw [begn_bad (by rw [hz]; decide), hz]
    exact ⟨rfl, h, hnow, rfl, hB⟩
  · rw [if_neg h1] at hz ⊢
    by_cases h2 : 8200 < x.data.size
    · rw [if_pos h2] at hz ⊢
      rw [begn_bad (by rw [hz]; decide), hz]
      exact ⟨rfl, h, hnow, rfl, hB⟩
    · rw [if_neg h2] at hz ⊢
      by_cases h3 : m ≤ (B2.length : Int)
      · rw [if_pos h3, begn_full hz (by rw [← B_len h]; exact h3)]
        exact ⟨rfl, h, hnow, rfl, hB⟩
      · rw [if_neg h3, begn_ok hz (by rw [← B_len h]; exact h3)]
        refine ⟨rfl, ?_, hnow, rfl, fun b hb => ?_⟩
        · show qB (B2 ++ [_]) = _ ++ [_]
          rw [← h, hnow]
          unfold qB
          rw [List.map_append]
          rfl
        · rcases List.mem_append.1 hb with g | g
          · exact hB b g
          · rw [List.mem_singleton.1 g]; exact hx
theorem RPass_any (rp : Nat) (A : Option Addr) (c : Nat) (B : List Bgr) (m wt : Int) (T : TS) (now : Int) (n : Nat) (hT : TOk n T) (hn : n ≤ 1000000) (hs : Srt T) (hq : qB B = T.q) (hB : ∀ b ∈ B, okA b.p) (hwt : 0 ≤ wt ∧ wt ≤ 1125899906842624) : FSpec Try.prog 31 #[.pointer (some (ad rp 0)), .int .i64 now] ((sep (Own 73 10 (.slice A B.length c) B.length (B.flatMap encB)) (cel rp [.slice A B.length c, .int .i64 m, .int .i64 wt, .int .i64 T.now, .int .i64 T.dr] 67))) (fun r : List Bgr × Option Addr × Nat => qB r.1 = (passT T wt now).q ∧ ∀ b ∈ r.1, okA b.p) (fun _ => .int .i64 (timC T.now now)) (fun r => (sep (Own 73 10 (.slice r.2.1 r.1.length r.2.2) r.1.length (r.1.flatMap encB)) (cel rp [.slice r.2.1 r.1.length r.2.2, .int .i64 m, .int .i64 wt, .int .i64 (passT T wt now).now, .int .i64 (passT T wt now).dr] 67))) := by
  have hm := B_mem hT hq
  have hl := B_len hq
  have hn2 := hT.n
  have hdr := hT.dr
  by_cases h : timC T.now now = 0
  · unfold passT
    rw [if_pos h, h]
    obtain ⟨e1, e2⟩ := B_pass (wt := wt) (now := now) hs hq
    exact (RPass_z rp A c B m wt T.now T.dr (by omega) now h hT.now.1 hwt (fun b hb => (hm b hb).1) (by omega) _ _ rfl e2).conseq (Ent.refl _) fun r _ => ⟨(B.filter (keepB wt now), r), ⟨e1, B_okf hB⟩, rfl, Ent.refl _⟩
  · unfold passT
    rw [if_neg h]
    exact (RPass_bad rp A c B m wt T.now T.dr (by omega) now h).conseq (Ent.refl _) fun r _ => ⟨(B, A, c), ⟨hq, hB⟩, rfl, Ent.refl _⟩
theorem RPut_any (rp : Nat) (A : Option Addr) (c : Nat) (B : List Bgr) (m wt : Int) (T : TS) (now : Int) (n : Nat) (hT : TOk n T) (hn : n ≤ 1000000) (hs : Srt T) (hq : qB B = T.q) (hB : ∀ b ∈ B, okA b.p) (hwt : 0 ≤ wt ∧ wt ≤ 1125899906842624) (x : Pk) (hx : okA x) (hxd : x.data.size ≤ 1000000) (q : Pk) (okb : Bool) (cd : Int) (T2 : TS) (hput : T.put m wt now x = ((q, okb, cd), T2)) : FSpec Try.prog 33 #[.pointer (some (ad rp 0)), .int .i64 now, .agg [.int .i64 x.id, .bool x.more, .int .i64 x.off, .int .i64 x.ttl, .int .i64 x.proto, .string (bytesL [x.s0, x.s1, x.s2, x.s3]), .string (bytesL [x.d0, x.d1, x.d2, x.d3]), .string x.data].toArray] ((sep (Own 73 10 (.slice A B.length c) B.length (B.flatMap encB)) (cel rp [.slice A B.length c, .int .i64 m, .int .i64 wt, .int .i64 T.now, .int .i64 T.dr] 67))) (fun r : List Bgr × Option Addr × Nat => qB r.1 = T2.q ∧ ∀ b ∈ r.1, okA b.p) (fun _ => .tuple #[.agg [.int .i64 q.id, .bool q.more, .int .i64 q.off, .int .i64 q.ttl, .int .i64 q.proto, .string (aS q okb), .string (aD q okb), .string q.data].toArray, .bool okb, .int .i64 cd]) (fun r => (sep (Own 73 10 (.slice r.2.1 r.1.length r.2.2) r.1.length (r.1.flatMap encB)) (cel rp [.slice r.2.1 r.1.length r.2.2, .int .i64 m, .int .i64 wt, .int .i64 T2.now, .int .i64 T2.dr] 67))) := by
  have hm := B_mem hT hq
  have hl := B_len hq
  have hn2 := hT.n
  have hdr := hT.dr
  by_cases h : timC T.now now = 0
  · obtain ⟨e1, e2⟩ := B_pass (wt := wt) (now := now) hs hq
    have hp := hT.pass (wt := wt) h
    have hB1 := B_okf (wt := wt) (now := now) hB
    generalize hB1e : B.filter (keepB wt now) = B1 at e1 e2 hB1
    have hl1 := B_len e1
    have hpn := hp.n
    have hpd := hp.dr
    have hm1 := B_mem hp e1
    by_cases ho : x.off = 0
    · rcases (Bool.eq_false_or_eq_true x.more).symm with hmo | hmo
      · skip
        rw [put_whole h ho hmo] at hput
        cases hput
        have hh := RPut_whole rp A c B m wt T.now T.dr (by omega) now x hx h hT.now.1 hwt (fun b hb => (hm b hb).1) (by omega) B1 _ hB1e e2 hB1 (by omega) (by omega) hxd ho hmo
        refine hh.conseq (Ent.refl _) fun r _ => ?_
        exact ⟨(B1, r), ⟨e1, hB1⟩, rfl, Ent.refl _⟩
      · skip
        rw [put_begin h ho hmo] at hput
        cases hput
        by_cases hf : fB B1 x < B1.length
        · have hfr : (T.pass wt now).free (kyOf x) = ⟨wob (T.pass wt now).q (kyOf x), (T.pass wt now).now, (T.pass wt now).dr + 1⟩ := if_pos ((B_hit e1).1 hf)
          obtain ⟨g1, g2, g3, g4, g5⟩ := beg_eq (m := m) (now := now) (B2 := B1.take (fB B1 x) ++ B1.drop (fB B1 x + 1)) (T1 := T.pass wt now) ho hmo hx (by rw [hfr]; exact B_drop e1 hp.nd hf) (by rw [hfr]; rfl) (B_okd hB1)
          rw [← g1]
          have hh := RPut_beg1 rp A c B m wt T.now T.dr (by omega) now x hx h hT.now.1 hwt (fun b hb => (hm b hb).1) (by omega) B1 _ hB1e e2 hB1 (by omega) (by omega) hxd ho hmo hf
          refine hh.conseq (Ent.refl _) fun r _ => ?_
          exact ⟨((begB m now (B1.take (fB B1 x) ++ B1.drop (fB B1 x + 1)) x).2, r), ⟨g2, g5⟩, rfl, Ent.of (by rw [g3, g4, hfr])⟩
        · have hfr : (T.pass wt now).free (kyOf x) = T.pass wt now := if_neg (fun g => hf ((B_hit e1).2 g))
          obtain ⟨g1, g2, g3, g4, g5⟩ := beg_eq (m := m) (now := now) (B2 := B1) (T1 := T.pass wt now) ho hmo hx (by rw [hfr]; exact e1) (by rw [hfr]; rfl) hB1
          rw [← g1]
          have hh := RPut_beg0 rp A c B m wt T.now T.dr (by omega) now x hx h hT.now.1 hwt (fun b hb => (hm b hb).1) (by omega) B1 _ hB1e e2 hB1 (by omega) (by omega) hxd ho hmo hf
          refine hh.conseq (Ent.refl _) fun r _ => ?_
          exact ⟨((begB m now B1 x).2, r), ⟨g2, g5⟩, rfl, Ent.of (by rw [g3, g4, hfr])⟩
    · by_cases hf : fB B1 x < B1.length
      · obtain ⟨y, hy⟩ : ∃ y, B1[fB B1 x]? = some y := ⟨_, List.getElem?_eq_getElem hf⟩
        have hb : bfind (T.pass wt now).q (kyOf x) = some y.bg := by rw [B_get e1, hy]; rfl
        have hyd := (hm1 y (List.mem_of_getElem? hy)).2
        rw [put_some h ho hb, show y.bg.data = y.data from rfl] at hput
        by_cases hsn : sndC x y.data.size = 0
        · rw [if_neg (fun n => n hsn)] at hput
          rcases (Bool.eq_false_or_eq_true x.more) with hmo | hmo
          · skip
            rw [if_pos hmo] at hput
            cases hput
            have hh := RPut_more rp A c B m wt T.now T.dr (by omega) now x hx h hT.now.1 hwt (fun b hb => (hm b hb).1) (by omega) B1 _ hB1e e2 hB1 (by omega) (by omega) hxd ho hf y hy hyd hsn hmo
            refine hh.conseq (Ent.refl _) fun r _ => ?_
            exact ⟨(B1.set (fB B1 x) ⟨y.p, y.t, y.data ++ x.data⟩, r), ⟨B_set e1 hp.nd hy, B_oks hB1 hy⟩, rfl, Ent.refl _⟩
          · skip
            rw [if_neg (by rw [hmo]; decide)] at hput
            cases hput
            have hh := RPut_last rp A c B m wt T.now T.dr (by omega) now x hx h hT.now.1 hwt (fun b hb => (hm b hb).1) (by omega) B1 _ hB1e e2 hB1 (by omega) (by omega) hxd ho hf y hy hyd hsn hmo
            refine hh.conseq (Ent.refl _) fun r _ => ?_
            exact ⟨(B1.take (fB B1 x) ++ B1.drop (fB B1 x + 1), r), ⟨B_drop e1 hp.nd hf, B_okd hB1⟩, rfl, Ent.refl _⟩
        · rw [if_pos hsn] at hput
          cases hput
          have hh := RPut_wrong rp A c B m wt T.now T.dr (by omega) now x hx h hT.now.1 hwt (fun b hb => (hm b hb).1) (by omega) B1 _ hB1e e2 hB1 (by omega) (by omega) hxd ho hf y hy hyd hsn
          refine hh.conseq (Ent.refl _) fun r _ => ?_
          exact ⟨(B1.take (fB B1 x) ++ B1.drop (fB B1 x + 1), r), ⟨B_drop e1 hp.nd hf, B_okd hB1⟩, rfl, Ent.refl _⟩
      · have hb : bfind (T.pass wt now).q (kyOf x) = none := by rw [B_get e1, List.getElem?_eq_none (by omega)]; rfl
        rw [put_none h ho hb] at hput
        cases hput
        have hh := RPut_none rp A c B m wt T.now T.dr (by omega) now x hx h hT.now.1 hwt (fun b hb => (hm b hb).1) (by omega) B1 _ hB1e e2 hB1 (by omega) (by omega) hxd ho hf
        refine hh.conseq (Ent.refl _) fun r _ => ?_
        exact ⟨(B1, r), ⟨e1, hB1⟩, rfl, Ent.refl _⟩
  · rw [put_bad h] at hput
    cases hput
    have hh := RPut_bad rp A c B m wt T.now T.dr (by omega) now x h
    refine hh.conseq (Ent.refl _) fun r _ => ?_
    exact ⟨(B, A, c), ⟨hq, hB⟩, rfl, Ent.refl _⟩

end Go.Proofs.Ytjpbpfihacfndaa
