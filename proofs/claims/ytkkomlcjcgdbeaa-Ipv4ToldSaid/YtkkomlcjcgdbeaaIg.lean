/- Contracts of icmp.Reply, of its reference, and of pitotlaw05.Plain, each proved by a walk over its code; they are used by the texts that import this one. -/
import Derived.Test.YtkkomlcjcgdbeaaIf
import Derived.Test.YtkkomlcjcgdbeaaY
import Derived.Test.YtkkomlcjcgdbeaaH
namespace Go.Proofs.Ytkkomlcjcgdbeaa
open Go.SLA
set_option maxRecDepth 100000
set_option linter.unusedVariables false
set_option linter.unusedSimpArgs false
attribute [local irreducible] J L K QL Rg FSpec OpV OpX Rd Back
structure Pk where
  id : Int
  more : Bool
  off : Int
  ttl : Int
  proto : Int
  s0 : Int
  s1 : Int
  s2 : Int
  s3 : Int
  d0 : Int
  d1 : Int
  d2 : Int
  d3 : Int
  data : ByteArray
def encPk (x : Pk) : List Value := [.int .i64 x.id, .bool x.more, .int .i64 x.off, .int .i64 x.ttl, .int .i64 x.proto, .int .u8 x.s0, .int .u8 x.s1, .int .u8 x.s2, .int .u8 x.s3, .int .u8 x.d0, .int .u8 x.d1, .int .u8 x.d2, .int .u8 x.d3, .string x.data]
def okPk (x : Pk) : Prop := (Lit.int .i64 x.id).wf = true ∧ (Lit.int .i64 x.off).wf = true ∧ (Lit.int .i64 x.ttl).wf = true ∧ (Lit.int .i64 x.proto).wf = true ∧ (Lit.int .u8 x.s0).wf = true ∧ (Lit.int .u8 x.s1).wf = true ∧ (Lit.int .u8 x.s2).wf = true ∧ (Lit.int .u8 x.s3).wf = true ∧ (Lit.int .u8 x.d0).wf = true ∧ (Lit.int .u8 x.d1).wf = true ∧ (Lit.int .u8 x.d2).wf = true ∧ (Lit.int .u8 x.d3).wf = true ∧ x.data.size ≤ maxLen
abbrev ksPk : List CK := [.int .i64, .bool, .int .i64, .int .i64, .int .i64, .int .u8, .int .u8, .int .u8, .int .u8, .int .u8, .int .u8, .int .u8, .int .u8, .str]
theorem encPk_len (x : Pk) : (encPk x).length = 14 := rfl
theorem decPk (cs : List Value) (h : Kinds ksPk cs) : ∃ x, cs = encPk x ∧ okPk x := by
  obtain ⟨hl, hk⟩ := h
  obtain ⟨v0, g0, x0, rfl, w0⟩ := hk 0 _ rfl
  obtain ⟨v1, g1, x1, rfl⟩ := hk 1 _ rfl
  obtain ⟨v2, g2, x2, rfl, w2⟩ := hk 2 _ rfl
  obtain ⟨v3, g3, x3, rfl, w3⟩ := hk 3 _ rfl
  obtain ⟨v4, g4, x4, rfl, w4⟩ := hk 4 _ rfl
  obtain ⟨v5, g5, x5, rfl, w5⟩ := hk 5 _ rfl
  obtain ⟨v6, g6, x6, rfl, w6⟩ := hk 6 _ rfl
  obtain ⟨v7, g7, x7, rfl, w7⟩ := hk 7 _ rfl
  obtain ⟨v8, g8, x8, rfl, w8⟩ := hk 8 _ rfl
  obtain ⟨v9, g9, x9, rfl, w9⟩ := hk 9 _ rfl
  obtain ⟨v10, g10, x10, rfl, w10⟩ := hk 10 _ rfl
  obtain ⟨v11, g11, x11, rfl, w11⟩ := hk 11 _ rfl
  obtain ⟨v12, g12, x12, rfl, w12⟩ := hk 12 _ rfl
  obtain ⟨v13, g13, x13, rfl, w13⟩ := hk 13 _ rfl
  match cs, hl with
  | [c0, c1, c2, c3, c4, c5, c6, c7, c8, c9, c10, c11, c12, c13], _ =>
    simp only [List.getElem?_cons_zero, List.getElem?_cons_succ, Option.some.injEq] at g0 g1 g2 g3 g4 g5 g6 g7 g8 g9 g10 g11 g12 g13
    exact ⟨⟨x0, x1, x2, x3, x4, x5, x6, x7, x8, x9, x10, x11, x12, x13⟩, by simp only [encPk, *], ⟨w0, w2, w3, w4, w5, w6, w7, w8, w9, w10, w11, w12, w13⟩⟩

structure Ip where
  i0 : Int
  i1 : Int
  i2 : Int
  i3 : Int
def encIp (x : Ip) : List Value := [.int .u8 x.i0, .int .u8 x.i1, .int .u8 x.i2, .int .u8 x.i3]
def okIp (x : Ip) : Prop := (Lit.int .u8 x.i0).wf = true ∧ (Lit.int .u8 x.i1).wf = true ∧ (Lit.int .u8 x.i2).wf = true ∧ (Lit.int .u8 x.i3).wf = true
abbrev ksIp : List CK := [.int .u8, .int .u8, .int .u8, .int .u8]
theorem encIp_len (x : Ip) : (encIp x).length = 4 := rfl
theorem decIp (cs : List Value) (h : Kinds ksIp cs) : ∃ x, cs = encIp x ∧ okIp x := by
  obtain ⟨hl, hk⟩ := h
  obtain ⟨v0, g0, x0, rfl, w0⟩ := hk 0 _ rfl
  obtain ⟨v1, g1, x1, rfl, w1⟩ := hk 1 _ rfl
  obtain ⟨v2, g2, x2, rfl, w2⟩ := hk 2 _ rfl
  obtain ⟨v3, g3, x3, rfl, w3⟩ := hk 3 _ rfl
  match cs, hl with
  | [c0, c1, c2, c3], _ =>
    simp only [List.getElem?_cons_zero, List.getElem?_cons_succ, Option.some.injEq] at g0 g1 g2 g3
    exact ⟨⟨x0, x1, x2, x3⟩, by simp only [encIp, *], ⟨w0, w1, w2, w3⟩⟩


def Pk.src (p : Pk) : List Int := [p.s0, p.s1, p.s2, p.s3]
def Pk.dst (p : Pk) : List Int := [p.d0, p.d1, p.d2, p.d3]
def Ip.l (o : Ip) : List Int := [o.i0, o.i1, o.i2, o.i3]
theorem wf8 {n : Int} (h : (Lit.int .u8 n).wf = true) : 0 ≤ n ∧ n < 256 := by
  have : 0 ≤ n ∧ n ≤ 255 := by simpa [Lit.wf, IntKind.min, IntKind.max, IntKind.signed, IntKind.bits] using h
  omega
theorem okPk.src {p : Pk} (h : okPk p) : ∀ v ∈ p.src, 0 ≤ v ∧ v < 256 := by
  obtain ⟨_, _, _, _, h0, h1, h2, h3, _⟩ := h
  intro v hv
  simp only [Pk.src, List.mem_cons, List.not_mem_nil, or_false] at hv
  rcases hv with rfl | rfl | rfl | rfl <;> exact wf8 (by assumption)
theorem okPk.dst {p : Pk} (h : okPk p) : ∀ v ∈ p.dst, 0 ≤ v ∧ v < 256 := by
  obtain ⟨_, _, _, _, _, _, _, _, h0, h1, h2, h3, _⟩ := h
  intro v hv
  simp only [Pk.dst, List.mem_cons, List.not_mem_nil, or_false] at hv
  rcases hv with rfl | rfl | rfl | rfl <;> exact wf8 (by assumption)
theorem okIp.l {o : Ip} (h : okIp o) : ∀ v ∈ o.l, 0 ≤ v ∧ v < 256 := by
  obtain ⟨h0, h1, h2, h3⟩ := h
  intro v hv
  simp only [Ip.l, List.mem_cons, List.not_mem_nil, or_false] at hv
  rcases hv with rfl | rfl | rfl | rfl <;> exact wf8 (by assumption)
theorem okPk.data {p : Pk} (h : okPk p) : p.data.size ≤ maxLen := h.2.2.2.2.2.2.2.2.2.2.2.2
theorem map_u8 : ∀ {a b : List Int}, a.map (Value.int .u8) = b.map (Value.int .u8) → a = b
  | [], [], _ => rfl
  | [], _ :: _, h => by cases h
  | _ :: _, [], h => by cases h
  | x :: a, y :: b, h => by
    simp only [List.map_cons, List.cons.injEq, Value.int.injEq, true_and] at h
    rw [h.1, map_u8 h.2]
theorem bytesL_inj {a b : List Int} (ha : ∀ v ∈ a, 0 ≤ v ∧ v < 256) (hb : ∀ v ∈ b, 0 ≤ v ∧ v < 256) (h : bytesL a = bytesL b) : a = b := by
  have := congrArg bts h
  rw [bts_bytesL a ha, bts_bytesL b hb] at this
  exact map_u8 this
def pkz : Pk := ⟨0, false, 0, 0, 0, 0, 0, 0, 0, 0, 0, 0, 0, ⟨#[]⟩⟩
/-- An echo turned to an answer. -/
def Ec.ans (x : Ec) : Ec := ⟨true, x.id, x.seq, x.text⟩
/-- The packet that answers one, or why none does. -/
def repI (o : Ip) (p : Pk) : Pk × Int :=
  if p.proto ≠ 1 then (pkz, 13) else if ¬ p.dst = o.l then (pkz, 14) else if p.more = true ∨ p.off ≠ 0 then (pkz, 15)
  else if (decI p.data).2 ≠ 0 then (pkz, (decI p.data).2) else if (decI p.data).1.rep = true then (pkz, 13)
  else (⟨p.id, false, 0, 1, 1, o.i0, o.i1, o.i2, o.i3, p.s0, p.s1, p.s2, p.s3, echo (decI p.data).1.ans⟩, 0)
theorem decI_ans {s : ByteArray} (h : ¬ (decI s).2 ≠ 0) : numsB (decI s).1.ans ∧ okEc (decI s).1.ans ∧ (decI s).1.ans.text.size ≤ 64 := by
  obtain ⟨h1, h2, h3, _⟩ := decI_back h
  have h4 := parse_sz s
  have h5 := parse_nb s
  have h6 := parse_ok (s := s) h3
  rw [h1]
  exact ⟨h5, h6, by show (parse s).text.size ≤ 64; omega⟩
theorem eq4_iff {a0 a1 a2 a3 b0 b1 b2 b3 : Int} : [Value.int .u8 a0, .int .u8 a1, .int .u8 a2, .int .u8 a3] ≠ [Value.int .u8 b0, .int .u8 b1, .int .u8 b2, .int .u8 b3] ↔ ¬ [a0, a1, a2, a3] = [b0, b1, b2, b3] := by simp
attribute [local irreducible] be ones echoT echo word decI encI

theorem Reply_spec (o : Ip) (p : Pk) : FSpec Try.prog 20 #[.agg [.int .u8 o.i0, .int .u8 o.i1, .int .u8 o.i2, .int .u8 o.i3].toArray, .agg [.int .i64 p.id, .bool p.more, .int .i64 p.off, .int .i64 p.ttl, .int .i64 p.proto, .int .u8 p.s0, .int .u8 p.s1, .int .u8 p.s2, .int .u8 p.s3, .int .u8 p.d0, .int .u8 p.d1, .int .u8 p.d2, .int .u8 p.d3, .string p.data].toArray] (emp) (fun _ : Unit => True) (fun _ => .tuple #[.agg (encPk (repI o p).1).toArray, .int .i64 (repI o p).2]) (fun _ => emp) := by
  refine FSpec.enter' Try.func20 rfl Try.ntmps20 rfl fun σ F => ?_
  refine J_emp ?_
  refine J_seq ?_
  refine J_region ?_
  refine L_x rfl (opx_box (l := [.int .u8 o.i0, .int .u8 o.i1, .int .u8 o.i2, .int .u8 o.i3]) rfl rfl) (fun b2 _ => ?_)
  refine L_x rfl (opx_box (l := [.int .i64 p.id, .bool p.more, .int .i64 p.off, .int .i64 p.ttl, .int .i64 p.proto, .int .u8 p.s0, .int .u8 p.s1, .int .u8 p.s2, .int .u8 p.s3, .int .u8 p.d0, .int .u8 p.d1, .int .u8 p.d2, .int .u8 p.d3, .string p.data]) rfl rfl) (fun b3 _ => ?_)
  refine L_x rfl (opx_alloc rfl) (fun b4 _ => ?_)
  refine L_v (opv_assign rfl) rfl ?_
  refine L_nil ?_
  refine K_then ?_
  refine J_seq ?_
  refine J_block ?_
  refine J_seq ?_
  refine J_region ?_
  first
    | refine L_v (opv_fieldAddr0 rfl) rfl ?_
    | refine L_v (opv_fieldAddr rfl) rfl ?_
  refine L_v (opv_load rfl (Rd.look rfl)) rfl ?_
  first
    | refine L_v (opv_neq rfl rfl) rfl ?_
    | refine L_v (opv_neqS rfl rfl) rfl ?_
    | refine L_v (opv_neqNil rfl rfl) rfl ?_
    | refine L_v (opv_neqB rfl rfl) rfl ?_
  refine L_v (opv_assign rfl) rfl ?_
  refine L_nil ?_
  refine K_then ?_
  refine J_cond rfl (fun h1 => ?_) (fun h1 => ?_)
  · refine J_seq ?_
    refine J_region ?_
    refine L_v (opv_build rfl) rfl ?_
    refine L_x rfl (opx_store rfl rfl rfl (by simp [Value.oneCell'])) (fun _ _ => ?_)
    refine L_v (opv_assign rfl) rfl ?_
    refine L_nil ?_
    refine K_then ?_
    refine J_ret ?_
    refine K_block_ret ?_
    refine K_then_ret ?_
    exact K_ret2c rfl rfl rfl rfl () trivial (by unfold repI; rw [if_pos (by first | assumption | exact Or.inl (by assumption) | exact Or.inr (by assumption))]; rfl) Ent.take
  · refine J_seq ?_
    refine J_region ?_
    first
      | refine L_v (opv_fieldAddr0 rfl) rfl ?_
      | refine L_v (opv_fieldAddr rfl) rfl ?_
    refine L_v (opv_loadS rfl) rfl ?_
    refine L_v (opv_loadS rfl) rfl ?_
    refine L_v ((opv_neqF rfl rfl (by simp [Shape, CK.sh]) (by simp [Shape, CK.sh])).as (v' := .bool (decide (¬ p.dst = o.l))) (congrArg Value.bool (decide_eq_decide.2 eq4_iff))) rfl ?_
    refine L_v (opv_assign rfl) rfl ?_
    refine L_nil ?_
    refine K_then ?_
    refine J_cond rfl (fun h2 => ?_) (fun h2 => ?_)
    · refine J_seq ?_
      refine J_region ?_
      refine L_v (opv_build rfl) rfl ?_
      refine L_x rfl (opx_store rfl rfl rfl (by simp [Value.oneCell'])) (fun _ _ => ?_)
      refine L_v (opv_assign rfl) rfl ?_
      refine L_nil ?_
      refine K_then ?_
      refine J_ret ?_
      refine K_block_ret ?_
      refine K_then_ret ?_
      exact K_ret2c rfl rfl rfl rfl () trivial (by unfold repI; rw [if_neg (by first | assumption | (intro h; contradiction) | (rintro (h | h) <;> contradiction)), if_pos (by first | assumption | exact Or.inl (by assumption) | exact Or.inr (by assumption))]; rfl) Ent.take
    · refine J_seq ?_
      refine J_region ?_
      first
        | refine L_v (opv_fieldAddr0 rfl) rfl ?_
        | refine L_v (opv_fieldAddr rfl) rfl ?_
      refine L_v ((opv_load rfl (Rd.look rfl)).as (v' := .bool (decide (p.more = true))) (by simp)) rfl ?_
      refine L_v (opv_move rfl) rfl ?_
      refine L_gf rfl rfl (fun h3 => ?_) (fun h3 => ?_) (fun _ h => by cases h; rfl)
      · first
          | refine L_v (opv_fieldAddr0 rfl) rfl ?_
          | refine L_v (opv_fieldAddr rfl) rfl ?_
        refine L_gf_on h3 rfl rfl ?_
        refine L_v (opv_load rfl (Rd.look rfl)) rfl ?_
        refine L_gf_on h3 rfl rfl ?_
        first
          | refine L_v (opv_neq rfl rfl) rfl ?_
          | refine L_v (opv_neqS rfl rfl) rfl ?_
          | refine L_v (opv_neqNil rfl rfl) rfl ?_
          | refine L_v (opv_neqB rfl rfl) rfl ?_
        refine L_v (opv_pick_f rfl h3 rfl) rfl ?_
        refine L_v (opv_assign rfl) rfl ?_
        refine L_nil ?_
        refine K_then ?_
        refine J_cond rfl (fun h4 => ?_) (fun h4 => ?_)
        · refine J_seq ?_
          refine J_region ?_
          refine L_v (opv_build rfl) rfl ?_
          refine L_x rfl (opx_store rfl rfl rfl (by simp [Value.oneCell'])) (fun _ _ => ?_)
          refine L_v (opv_assign rfl) rfl ?_
          refine L_nil ?_
          refine K_then ?_
          refine J_ret ?_
          refine K_block_ret ?_
          refine K_then_ret ?_
          exact K_ret2c rfl rfl rfl rfl () trivial (by unfold repI; rw [if_neg (by first | assumption | (intro h; contradiction) | (rintro (h | h) <;> contradiction)), if_neg (by first | assumption | (intro h; contradiction) | (rintro (h | h) <;> contradiction)), if_pos (by first | assumption | exact Or.inl (by assumption) | exact Or.inr (by assumption))]; rfl) Ent.take
        · refine J_skip ?_
          refine K_block ?_
          refine K_then ?_
          refine J_seq ?_
          refine J_region ?_
          first
            | refine L_v (opv_fieldAddr0 rfl) rfl ?_
            | refine L_v (opv_fieldAddr rfl) rfl ?_
          refine L_v (opv_load rfl (Rd.look rfl)) rfl ?_
          refine L_x rfl (opx_call0 (Decode_lit p.data) rfl rfl rfl) (fun _ _ => ?_)
          refine L_emp ?_
          refine L_v (opv_move rfl) rfl ?_
          refine L_v (opv_extract (v := .agg [.bool (decI p.data).1.rep, .int .i64 (decI p.data).1.id, .int .i64 (decI p.data).1.seq, .string (decI p.data).1.text].toArray) rfl rfl) rfl ?_
          refine L_v (opv_extract rfl rfl) rfl ?_
          refine L_x rfl (opx_alloc rfl) (fun b6 _ => ?_)
          refine L_x rfl (opx_store rfl rfl rfl (by simp [Value.oneCell'])) (fun _ _ => ?_)
          refine L_v (opv_assign rfl) rfl ?_
          refine L_nil ?_
          refine K_then ?_
          refine J_seq ?_
          refine J_block ?_
          refine J_seq ?_
          refine J_region ?_
          refine L_v (opv_move rfl) rfl ?_
          first
            | refine L_v (opv_neq rfl rfl) rfl ?_
            | refine L_v (opv_neqS rfl rfl) rfl ?_
            | refine L_v (opv_neqNil rfl rfl) rfl ?_
            | refine L_v (opv_neqB rfl rfl) rfl ?_
          refine L_v (opv_assign rfl) rfl ?_
          refine L_nil ?_
          refine K_then ?_
          refine J_cond rfl (fun h5 => ?_) (fun h5 => ?_)
          · refine J_seq ?_
            refine J_region ?_
            refine L_v (opv_build rfl) rfl ?_
            refine L_v (opv_move rfl) rfl ?_
            refine L_x rfl (opx_store rfl rfl rfl (by simp [Value.oneCell'])) (fun _ _ => ?_)
            refine L_v (opv_assign rfl) rfl ?_
            refine L_nil ?_
            refine K_then ?_
            refine J_ret ?_
            refine K_block_ret ?_
            refine K_then_ret ?_
            exact K_ret2c rfl rfl rfl rfl () trivial (by unfold repI; rw [if_neg (by first | assumption | (intro h; contradiction) | (rintro (h | h) <;> contradiction)), if_neg (by first | assumption | (intro h; contradiction) | (rintro (h | h) <;> contradiction)), if_neg (by first | assumption | (intro h; contradiction) | (rintro (h | h) <;> contradiction)), if_pos (by first | assumption | exact Or.inl (by assumption) | exact Or.inr (by assumption))]; rfl) Ent.take
          · obtain ⟨hn, ho, hs⟩ := decI_ans (s := p.data) (by assumption)
            refine J_seq ?_
            refine J_region ?_
            first
              | refine L_v (opv_fieldAddr0 rfl) rfl ?_
              | refine L_v (opv_fieldAddr rfl) rfl ?_
            refine L_v ((opv_load rfl (Rd.look rfl)).as (v' := .bool (decide ((decI p.data).1.rep = true))) (by simp)) rfl ?_
            refine L_v (opv_assign rfl) rfl ?_
            refine L_nil ?_
            refine K_then ?_
            refine J_cond rfl (fun h6 => ?_) (fun h6 => ?_)
            · refine J_seq ?_
              refine J_region ?_
              refine L_v (opv_build rfl) rfl ?_
              refine L_x rfl (opx_store rfl rfl rfl (by simp [Value.oneCell'])) (fun _ _ => ?_)
              refine L_v (opv_assign rfl) rfl ?_
              refine L_nil ?_
              refine K_then ?_
              refine J_ret ?_
              refine K_block_ret ?_
              refine K_then_ret ?_
              exact K_ret2c rfl rfl rfl rfl () trivial (by unfold repI; rw [if_neg (by first | assumption | (intro h; contradiction) | (rintro (h | h) <;> contradiction)), if_neg (by first | assumption | (intro h; contradiction) | (rintro (h | h) <;> contradiction)), if_neg (by first | assumption | (intro h; contradiction) | (rintro (h | h) <;> contradiction)), if_neg (by first | assumption | (intro h; contradiction) | (rintro (h | h) <;> contradiction)), if_pos (by first | assumption | exact Or.inl (by assumption) | exact Or.inr (by assumption))]; rfl) Ent.take
            · refine J_skip ?_
              refine K_block ?_
              refine K_then ?_
              refine J_seq ?_
              refine J_region ?_
              first
                | refine L_v (opv_fieldAddr0 rfl) rfl ?_
                | refine L_v (opv_fieldAddr rfl) rfl ?_
              refine L_x rfl (opx_store rfl rfl rfl (by simp [Value.oneCell'])) (fun _ _ => ?_)
              refine L_nil ?_
              refine K_then ?_
              refine J_seq ?_
              refine J_region ?_
              refine L_v (opv_loadS rfl) rfl ?_
              refine L_x rfl (opx_call0 (Encode_ok ((decI p.data).1.ans) ho hn hs) rfl rfl rfl) (fun _ _ => ?_)
              refine L_emp ?_
              refine L_v (opv_move rfl) rfl ?_
              refine L_v (opv_extract (v := .string (echo (decI p.data).1.ans)) rfl rfl) rfl ?_
              refine L_v (opv_extract rfl rfl) rfl ?_
              refine L_v (opv_assign rfl) rfl ?_
              refine L_v (opv_assign rfl) rfl ?_
              refine L_nil ?_
              refine K_then ?_
              refine J_seq ?_
              refine J_seq ?_
              refine J_region ?_
              refine L_v (opv_move rfl) rfl ?_
              refine L_v ((opv_neq rfl rfl).bool_f (by decide)) rfl ?_
              refine L_nil ?_
              refine K_then ?_
              refine J_cond_false rfl ?_
              refine J_skip ?_
              refine K_then ?_
              refine J_seq ?_
              refine J_region ?_
              first
                | refine L_v (opv_fieldAddr0 rfl) rfl ?_
                | refine L_v (opv_fieldAddr rfl) rfl ?_
              refine L_v (opv_load rfl (Rd.look rfl)) rfl ?_
              refine L_v (opv_loadS rfl) rfl ?_
              first
                | refine L_v (opv_fieldAddr0 rfl) rfl ?_
                | refine L_v (opv_fieldAddr rfl) rfl ?_
              refine L_v (opv_loadS rfl) rfl ?_
              refine L_v (opv_move rfl) rfl ?_
              refine L_v (opv_build rfl) rfl ?_
              refine L_x rfl (opx_store rfl rfl rfl (by simp [Value.oneCell'])) (fun _ _ => ?_)
              refine L_v (opv_assign rfl) rfl ?_
              refine L_nil ?_
              refine K_then ?_
              refine J_ret ?_
              exact K_ret2c rfl rfl rfl rfl () trivial (by unfold repI; rw [if_neg (by first | assumption | (intro h; contradiction) | (rintro (h | h) <;> contradiction)), if_neg (by first | assumption | (intro h; contradiction) | (rintro (h | h) <;> contradiction)), if_neg (by first | assumption | (intro h; contradiction) | (rintro (h | h) <;> contradiction)), if_neg (by first | assumption | (intro h; contradiction) | (rintro (h | h) <;> contradiction)), if_neg (by first | assumption | (intro h; contradiction) | (rintro (h | h) <;> contradiction))]; rfl) Ent.take
      · refine L_gf_off h3 rfl rfl ?_ (fun _ h => by cases h; rfl)
        refine L_gf_off h3 rfl rfl ?_ (fun _ h => by cases h; rfl)
        refine L_v (opv_pick_t rfl h3 rfl) rfl ?_
        refine L_v (opv_assign rfl) rfl ?_
        refine L_nil ?_
        refine K_then ?_
        refine J_cond_true rfl ?_
        refine J_seq ?_
        refine J_region ?_
        refine L_v (opv_build rfl) rfl ?_
        refine L_x rfl (opx_store rfl rfl rfl (by simp [Value.oneCell'])) (fun _ _ => ?_)
        refine L_v (opv_assign rfl) rfl ?_
        refine L_nil ?_
        refine K_then ?_
        refine J_ret ?_
        refine K_block_ret ?_
        refine K_then_ret ?_
        exact K_ret2c rfl rfl rfl rfl () trivial (by unfold repI; rw [if_neg (by first | assumption | (intro h; contradiction) | (rintro (h | h) <;> contradiction)), if_neg (by first | assumption | (intro h; contradiction) | (rintro (h | h) <;> contradiction)), if_pos (by first | assumption | exact Or.inl (by assumption) | exact Or.inr (by assumption))]; rfl) Ent.take


/-- A packet as the document's answer has it. -/
def plainL (p : Pk) : List Value := [.int .i64 p.id, .bool p.more, .int .i64 p.off, .int .i64 p.ttl, .int .i64 p.proto, .string (bytesL p.src), .string (bytesL p.dst), .string p.data]
def rzL : List Value := [.int .i64 0, .bool false, .int .i64 0, .int .i64 0, .int .i64 0, .string ⟨#[]⟩, .string ⟨#[]⟩, .string ⟨#[]⟩]

theorem RReply_spec (o : Ip) (p : Pk) (ho : okIp o) (hp : okPk p) (hd : p.data.size ≤ 1000) : FSpec Try.prog 21 #[.string (bytesL o.l), .agg (plainL p).toArray] (emp) (fun _ : Unit => True) (fun _ => .tuple #[.agg (if (repI o p).2 = 0 then plainL (repI o p).1 else rzL).toArray, .int .i64 (repI o p).2]) (fun _ => emp) := by
  refine FSpec.enter' Try.func21 rfl Try.ntmps21 rfl fun σ F => ?_
  refine J_emp ?_
  refine J_seq ?_
  refine J_region ?_
  refine L_x rfl (opx_box (l := [.int .i64 p.id, .bool p.more, .int .i64 p.off, .int .i64 p.ttl, .int .i64 p.proto, .string (bytesL p.src), .string (bytesL p.dst), .string p.data]) rfl rfl) (fun b3 _ => ?_)
  refine L_x rfl (opx_alloc rfl) (fun b4 _ => ?_)
  refine L_v (opv_assign rfl) rfl ?_
  refine L_nil ?_
  refine K_then ?_
  refine J_seq ?_
  refine J_seq ?_
  refine J_region ?_
  first
    | refine L_v (opv_fieldAddr0 rfl) rfl ?_
    | refine L_v (opv_fieldAddr rfl) rfl ?_
  refine L_v (opv_load rfl (Rd.look rfl)) rfl ?_
  first
    | refine L_v (opv_neq rfl rfl) rfl ?_
    | refine L_v (opv_neqS rfl rfl) rfl ?_
    | refine L_v (opv_neqNil rfl rfl) rfl ?_
    | refine L_v (opv_neqB rfl rfl) rfl ?_
  refine L_nil ?_
  refine K_then ?_
  refine J_cond rfl (fun h1 => ?_) (fun h1 => ?_)
  · refine J_seq ?_
    refine J_region ?_
    refine L_v (opv_build rfl) rfl ?_
    refine L_x rfl (opx_store rfl rfl rfl (by simp [Value.oneCell'])) (fun _ _ => ?_)
    refine L_v (opv_assign rfl) rfl ?_
    refine L_nil ?_
    refine K_then ?_
    refine J_ret ?_
    refine K_then_ret ?_
    have e : repI o p = (pkz, 13) := by unfold repI; rw [if_pos (by first | assumption | exact Or.inl (by assumption) | exact Or.inr (by assumption))]
    exact K_ret2c rfl rfl rfl rfl () trivial (by rw [e]; rfl) Ent.take
  · refine J_skip ?_
    refine K_then ?_
    refine J_seq ?_
    refine J_seq ?_
    refine J_region ?_
    first
      | refine L_v (opv_fieldAddr0 rfl) rfl ?_
      | refine L_v (opv_fieldAddr rfl) rfl ?_
    refine L_v (opv_load rfl (Rd.look rfl)) rfl ?_
    refine L_v (opv_move rfl) rfl ?_
    refine L_v ((opv_neqS rfl rfl).as (v' := .bool (decide (¬ p.dst = o.l))) (congrArg Value.bool (decide_eq_decide.2 (not_congr ⟨bytesL_inj hp.dst ho.l, fun h => by rw [h]⟩)))) rfl ?_
    refine L_nil ?_
    refine K_then ?_
    refine J_cond rfl (fun h2 => ?_) (fun h2 => ?_)
    · refine J_seq ?_
      refine J_region ?_
      refine L_v (opv_build rfl) rfl ?_
      refine L_x rfl (opx_store rfl rfl rfl (by simp [Value.oneCell'])) (fun _ _ => ?_)
      refine L_v (opv_assign rfl) rfl ?_
      refine L_nil ?_
      refine K_then ?_
      refine J_ret ?_
      refine K_then_ret ?_
      have e : repI o p = (pkz, 14) := by unfold repI; rw [if_neg (by first | assumption | (intro h; contradiction) | (rintro (h | h) <;> contradiction)), if_pos (by first | assumption | exact Or.inl (by assumption) | exact Or.inr (by assumption))]
      exact K_ret2c rfl rfl rfl rfl () trivial (by rw [e]; rfl) Ent.take
    · refine J_skip ?_
      refine K_then ?_
      refine J_seq ?_
      refine J_seq ?_
      refine J_region ?_
      first
        | refine L_v (opv_fieldAddr0 rfl) rfl ?_
        | refine L_v (opv_fieldAddr rfl) rfl ?_
      refine L_v ((opv_load rfl (Rd.look rfl)).as (v' := .bool (decide (p.more = true))) (by simp)) rfl ?_
      refine L_v (opv_move rfl) rfl ?_
      refine L_gf rfl rfl (fun h3 => ?_) (fun h3 => ?_) (fun _ h => by cases h; rfl)
      · first
          | refine L_v (opv_fieldAddr0 rfl) rfl ?_
          | refine L_v (opv_fieldAddr rfl) rfl ?_
        refine L_gf_on h3 rfl rfl ?_
        refine L_v (opv_load rfl (Rd.look rfl)) rfl ?_
        refine L_gf_on h3 rfl rfl ?_
        first
          | refine L_v (opv_neq rfl rfl) rfl ?_
          | refine L_v (opv_neqS rfl rfl) rfl ?_
          | refine L_v (opv_neqNil rfl rfl) rfl ?_
          | refine L_v (opv_neqB rfl rfl) rfl ?_
        refine L_v (opv_pick_f rfl h3 rfl) rfl ?_
        refine L_nil ?_
        refine K_then ?_
        refine J_cond rfl (fun h4 => ?_) (fun h4 => ?_)
        · refine J_seq ?_
          refine J_region ?_
          refine L_v (opv_build rfl) rfl ?_
          refine L_x rfl (opx_store rfl rfl rfl (by simp [Value.oneCell'])) (fun _ _ => ?_)
          refine L_v (opv_assign rfl) rfl ?_
          refine L_nil ?_
          refine K_then ?_
          refine J_ret ?_
          refine K_then_ret ?_
          have e : repI o p = (pkz, 15) := by unfold repI; rw [if_neg (by first | assumption | (intro h; contradiction) | (rintro (h | h) <;> contradiction)), if_neg (by first | assumption | (intro h; contradiction) | (rintro (h | h) <;> contradiction)), if_pos (by first | assumption | exact Or.inl (by assumption) | exact Or.inr (by assumption))]
          exact K_ret2c rfl rfl rfl rfl () trivial (by rw [e]; rfl) Ent.take
        · refine J_skip ?_
          refine K_then ?_
          refine J_seq ?_
          refine J_region ?_
          first
            | refine L_v (opv_fieldAddr0 rfl) rfl ?_
            | refine L_v (opv_fieldAddr rfl) rfl ?_
          refine L_v (opv_load rfl (Rd.look rfl)) rfl ?_
          refine L_x rfl (opx_call0 (RDecode_lit p.data hd) rfl rfl rfl) (fun _ _ => ?_)
          refine L_emp ?_
          refine L_v (opv_move rfl) rfl ?_
          refine L_v (opv_extract (v := .agg [.bool (decI p.data).1.rep, .int .i64 (decI p.data).1.id, .int .i64 (decI p.data).1.seq, .string (decI p.data).1.text].toArray) rfl rfl) rfl ?_
          refine L_v (opv_extract rfl rfl) rfl ?_
          refine L_x rfl (opx_alloc rfl) (fun b6 _ => ?_)
          refine L_x rfl (opx_store rfl rfl rfl (by simp [Value.oneCell'])) (fun _ _ => ?_)
          refine L_v (opv_assign rfl) rfl ?_
          refine L_nil ?_
          refine K_then ?_
          refine J_seq ?_
          refine J_seq ?_
          refine J_region ?_
          refine L_v (opv_move rfl) rfl ?_
          first
            | refine L_v (opv_neq rfl rfl) rfl ?_
            | refine L_v (opv_neqS rfl rfl) rfl ?_
            | refine L_v (opv_neqNil rfl rfl) rfl ?_
            | refine L_v (opv_neqB rfl rfl) rfl ?_
          refine L_nil ?_
          refine K_then ?_
          refine J_cond rfl (fun h5 => ?_) (fun h5 => ?_)
          · refine J_seq ?_
            refine J_region ?_
            refine L_v (opv_build rfl) rfl ?_
            refine L_v (opv_move rfl) rfl ?_
            refine L_x rfl (opx_store rfl rfl rfl (by simp [Value.oneCell'])) (fun _ _ => ?_)
            refine L_v (opv_assign rfl) rfl ?_
            refine L_nil ?_
            refine K_then ?_
            refine J_ret ?_
            refine K_then_ret ?_
            have e : repI o p = (pkz, (decI p.data).2) := by unfold repI; rw [if_neg (by first | assumption | (intro h; contradiction) | (rintro (h | h) <;> contradiction)), if_neg (by first | assumption | (intro h; contradiction) | (rintro (h | h) <;> contradiction)), if_neg (by first | assumption | (intro h; contradiction) | (rintro (h | h) <;> contradiction)), if_pos (by first | assumption | exact Or.inl (by assumption) | exact Or.inr (by assumption))]
            exact K_ret2c rfl rfl rfl rfl () trivial (by rw [e]; dsimp only; rw [if_neg (by assumption)]; rfl) Ent.take
          · obtain ⟨hn, ho2, hs⟩ := decI_ans (s := p.data) (by assumption)
            refine J_skip ?_
            refine K_then ?_
            refine J_seq ?_
            refine J_seq ?_
            refine J_region ?_
            first
              | refine L_v (opv_fieldAddr0 rfl) rfl ?_
              | refine L_v (opv_fieldAddr rfl) rfl ?_
            refine L_v ((opv_load rfl (Rd.look rfl)).as (v' := .bool (decide ((decI p.data).1.rep = true))) (by simp)) rfl ?_
            refine L_nil ?_
            refine K_then ?_
            refine J_cond rfl (fun h6 => ?_) (fun h6 => ?_)
            · refine J_seq ?_
              refine J_region ?_
              refine L_v (opv_build rfl) rfl ?_
              refine L_x rfl (opx_store rfl rfl rfl (by simp [Value.oneCell'])) (fun _ _ => ?_)
              refine L_v (opv_assign rfl) rfl ?_
              refine L_nil ?_
              refine K_then ?_
              refine J_ret ?_
              refine K_then_ret ?_
              have e : repI o p = (pkz, 13) := by unfold repI; rw [if_neg (by first | assumption | (intro h; contradiction) | (rintro (h | h) <;> contradiction)), if_neg (by first | assumption | (intro h; contradiction) | (rintro (h | h) <;> contradiction)), if_neg (by first | assumption | (intro h; contradiction) | (rintro (h | h) <;> contradiction)), if_neg (by first | assumption | (intro h; contradiction) | (rintro (h | h) <;> contradiction)), if_pos (by first | assumption | exact Or.inl (by assumption) | exact Or.inr (by assumption))]
              exact K_ret2c rfl rfl rfl rfl () trivial (by rw [e]; rfl) Ent.take
            · refine J_skip ?_
              refine K_then ?_
              refine J_seq ?_
              refine J_region ?_
              first
                | refine L_v (opv_fieldAddr0 rfl) rfl ?_
                | refine L_v (opv_fieldAddr rfl) rfl ?_
              refine L_x rfl (opx_store rfl rfl rfl (by simp [Value.oneCell'])) (fun _ _ => ?_)
              refine L_nil ?_
              refine K_then ?_
              refine J_seq ?_
              refine J_region ?_
              refine L_v (opv_loadS rfl) rfl ?_
              refine L_x rfl (opx_call0 (REncode_ok ((decI p.data).1.ans) hn hs) rfl rfl rfl) (fun _ _ => ?_)
              refine L_emp ?_
              refine L_v (opv_move rfl) rfl ?_
              refine L_v (opv_extract (v := .string (echo (decI p.data).1.ans)) rfl rfl) rfl ?_
              refine L_v (opv_extract rfl rfl) rfl ?_
              refine L_v (opv_assign rfl) rfl ?_
              refine L_v (opv_assign rfl) rfl ?_
              refine L_nil ?_
              refine K_then ?_
              refine J_seq ?_
              refine J_region ?_
              first
                | refine L_v (opv_fieldAddr0 rfl) rfl ?_
                | refine L_v (opv_fieldAddr rfl) rfl ?_
              refine L_v (opv_load rfl (Rd.look rfl)) rfl ?_
              refine L_v (opv_move rfl) rfl ?_
              first
                | refine L_v (opv_fieldAddr0 rfl) rfl ?_
                | refine L_v (opv_fieldAddr rfl) rfl ?_
              refine L_v (opv_load rfl (Rd.look rfl)) rfl ?_
              refine L_v (opv_move rfl) rfl ?_
              refine L_v (opv_build rfl) rfl ?_
              refine L_x rfl (opx_store rfl rfl rfl (by simp [Value.oneCell'])) (fun _ _ => ?_)
              refine L_v (opv_assign rfl) rfl ?_
              refine L_nil ?_
              refine K_then ?_
              refine J_ret ?_
              have e : repI o p = (⟨p.id, false, 0, 1, 1, o.i0, o.i1, o.i2, o.i3, p.s0, p.s1, p.s2, p.s3, echo (decI p.data).1.ans⟩, 0) := by unfold repI; rw [if_neg (by first | assumption | (intro h; contradiction) | (rintro (h | h) <;> contradiction)), if_neg (by first | assumption | (intro h; contradiction) | (rintro (h | h) <;> contradiction)), if_neg (by first | assumption | (intro h; contradiction) | (rintro (h | h) <;> contradiction)), if_neg (by first | assumption | (intro h; contradiction) | (rintro (h | h) <;> contradiction)), if_neg (by first | assumption | (intro h; contradiction) | (rintro (h | h) <;> contradiction))]
              exact K_ret2c rfl rfl rfl rfl () trivial (by rw [e]; rfl) Ent.take
      · refine L_gf_off h3 rfl rfl ?_ (fun _ h => by cases h; rfl)
        refine L_gf_off h3 rfl rfl ?_ (fun _ h => by cases h; rfl)
        refine L_v (opv_pick_t rfl h3 rfl) rfl ?_
        refine L_nil ?_
        refine K_then ?_
        refine J_cond_true rfl ?_
        refine J_seq ?_
        refine J_region ?_
        refine L_v (opv_build rfl) rfl ?_
        refine L_x rfl (opx_store rfl rfl rfl (by simp [Value.oneCell'])) (fun _ _ => ?_)
        refine L_v (opv_assign rfl) rfl ?_
        refine L_nil ?_
        refine K_then ?_
        refine J_ret ?_
        refine K_then_ret ?_
        have e : repI o p = (pkz, 15) := by unfold repI; rw [if_neg (by first | assumption | (intro h; contradiction) | (rintro (h | h) <;> contradiction)), if_neg (by first | assumption | (intro h; contradiction) | (rintro (h | h) <;> contradiction)), if_pos (by first | assumption | exact Or.inl (by assumption) | exact Or.inr (by assumption))]
        exact K_ret2c rfl rfl rfl rfl () trivial (by rw [e]; rfl) Ent.take

theorem ip05_spec (w0 w1 w2 w3 : Int) (h : ∀ v ∈ [w0, w1, w2, w3], 0 ≤ v ∧ v < 256) : FSpec Try.prog 28 #[.agg #[.int .u8 w0, .int .u8 w1, .int .u8 w2, .int .u8 w3]] (emp) (fun _ : Unit => True) (fun _ => .string (bytesL [w0, w1, w2, w3])) (fun _ => emp) := by
  refine FSpec.enter' Try.func28 rfl Try.ntmps28 rfl fun σ F => ?_
  refine J_emp ?_
  refine J_seq ?_
  refine J_region ?_
  refine L_x rfl (opx_box (l := [.int .u8 w0, .int .u8 w1, .int .u8 w2, .int .u8 w3]) rfl rfl) (fun b1 _ => ?_)
  refine L_v (opv_assign rfl) rfl ?_
  refine L_nil ?_
  refine K_then ?_
  refine J_seq ?_
  refine J_region ?_
  first
    | refine L_v (opv_indexAddr rfl rfl (by omega)) rfl ?_
    | refine L_v (opv_indexAddrA rfl rfl (by omega)) rfl ?_
  refine L_v (opv_load rfl (Rd.look rfl)) rfl ?_
  first
    | refine L_v (opv_indexAddr rfl rfl (by omega)) rfl ?_
    | refine L_v (opv_indexAddrA rfl rfl (by omega)) rfl ?_
  refine L_v (opv_load rfl (Rd.look rfl)) rfl ?_
  first
    | refine L_v (opv_indexAddr rfl rfl (by omega)) rfl ?_
    | refine L_v (opv_indexAddrA rfl rfl (by omega)) rfl ?_
  refine L_v (opv_load rfl (Rd.look rfl)) rfl ?_
  first
    | refine L_v (opv_indexAddr rfl rfl (by omega)) rfl ?_
    | refine L_v (opv_indexAddrA rfl rfl (by omega)) rfl ?_
  refine L_v (opv_load rfl (Rd.look rfl)) rfl ?_
  refine L_x rfl (opx_buildSliceL rfl rfl rfl (by omega) (by simp [Value.cells]) rfl) (fun b11 _ => ?_)
  refine L_v (opv_b2sL [w0, w1, w2, w3] rfl rfl rfl h) rfl ?_
  refine L_v (opv_assign rfl) rfl ?_
  refine L_nil ?_
  refine K_then ?_
  refine J_ret ?_
  exact K_ret1 rfl rfl () trivial (rfl) Ent.take

theorem Plain05_f (p : Pk) (hp : okPk p) : FSpec Try.prog 22 #[.agg [.int .i64 p.id, .bool p.more, .int .i64 p.off, .int .i64 p.ttl, .int .i64 p.proto, .int .u8 p.s0, .int .u8 p.s1, .int .u8 p.s2, .int .u8 p.s3, .int .u8 p.d0, .int .u8 p.d1, .int .u8 p.d2, .int .u8 p.d3, .string p.data].toArray, .bool false] (emp) (fun _ : Unit => True) (fun _ => .agg (plainL p).toArray) (fun _ => emp) := by
  refine FSpec.enter' Try.func22 rfl Try.ntmps22 rfl fun σ F => ?_
  refine J_emp ?_
  refine J_seq ?_
  refine J_region ?_
  refine L_x rfl (opx_box (l := [.int .i64 p.id, .bool p.more, .int .i64 p.off, .int .i64 p.ttl, .int .i64 p.proto, .int .u8 p.s0, .int .u8 p.s1, .int .u8 p.s2, .int .u8 p.s3, .int .u8 p.d0, .int .u8 p.d1, .int .u8 p.d2, .int .u8 p.d3, .string p.data]) rfl rfl) (fun b2 _ => ?_)
  refine L_x rfl (opx_alloc rfl) (fun b4 _ => ?_)
  refine L_nil ?_
  refine K_then ?_
  refine J_seq ?_
  refine J_steps (cel b2 [.int .i64 p.id, .bool p.more, .int .i64 p.off, .int .i64 p.ttl, .int .i64 p.proto, .int .u8 p.s0, .int .u8 p.s1, .int .u8 p.s2, .int .u8 p.s3, .int .u8 p.d0, .int .u8 p.d1, .int .u8 p.d2, .int .u8 p.d3, .string p.data] 41) (cel b2 [.int .i64 p.id, .bool p.more, .int .i64 p.off, .int .i64 p.ttl, .int .i64 p.proto, .int .u8 p.s0, .int .u8 p.s1, .int .u8 p.s2, .int .u8 p.s3, .int .u8 p.d0, .int .u8 p.d1, .int .u8 p.d2, .int .u8 p.d3, .string p.data] 41) [] Try.mixed ?_
  first
    | refine R_pure 0 rfl (by kernel_rfl) (by kernel_rfl) (by kernel_rfl) (by kernel_rfl) (.inr ⟨_, Take.eq (A := cel b2 [.int .i64 p.id, .bool p.more, .int .i64 p.off, .int .i64 p.ttl, .int .i64 p.proto, .int .u8 p.s0, .int .u8 p.s1, .int .u8 p.s2, .int .u8 p.s3, .int .u8 p.d0, .int .u8 p.d1, .int .u8 p.d2, .int .u8 p.d3, .string p.data] 41)⟩) (opv_fieldAddr0 rfl) rfl ?_
    | refine R_pure 0 rfl (by kernel_rfl) (by kernel_rfl) (by kernel_rfl) (by kernel_rfl) (.inr ⟨_, Take.eq (A := cel b2 [.int .i64 p.id, .bool p.more, .int .i64 p.off, .int .i64 p.ttl, .int .i64 p.proto, .int .u8 p.s0, .int .u8 p.s1, .int .u8 p.s2, .int .u8 p.s3, .int .u8 p.d0, .int .u8 p.d1, .int .u8 p.d2, .int .u8 p.d3, .string p.data] 41)⟩) (opv_fieldAddr rfl) rfl ?_
  refine R_take 1 rfl (by kernel_rfl) (by kernel_rfl) (by kernel_rfl) (by kernel_rfl) (by kernel_rfl) (opv_load rfl (Rd.look rfl)) rfl ?_
  first
    | refine R_pure 2 rfl (by kernel_rfl) (by kernel_rfl) (by kernel_rfl) (by kernel_rfl) (.inr ⟨_, Take.eq (A := cel b2 [.int .i64 p.id, .bool p.more, .int .i64 p.off, .int .i64 p.ttl, .int .i64 p.proto, .int .u8 p.s0, .int .u8 p.s1, .int .u8 p.s2, .int .u8 p.s3, .int .u8 p.d0, .int .u8 p.d1, .int .u8 p.d2, .int .u8 p.d3, .string p.data] 41)⟩) (opv_fieldAddr0 rfl) rfl ?_
    | refine R_pure 2 rfl (by kernel_rfl) (by kernel_rfl) (by kernel_rfl) (by kernel_rfl) (.inr ⟨_, Take.eq (A := cel b2 [.int .i64 p.id, .bool p.more, .int .i64 p.off, .int .i64 p.ttl, .int .i64 p.proto, .int .u8 p.s0, .int .u8 p.s1, .int .u8 p.s2, .int .u8 p.s3, .int .u8 p.d0, .int .u8 p.d1, .int .u8 p.d2, .int .u8 p.d3, .string p.data] 41)⟩) (opv_fieldAddr rfl) rfl ?_
  refine R_take 3 rfl (by kernel_rfl) (by kernel_rfl) (by kernel_rfl) (by kernel_rfl) (by kernel_rfl) (opv_load rfl (Rd.look rfl)) rfl ?_
  first
    | refine R_pure 4 rfl (by kernel_rfl) (by kernel_rfl) (by kernel_rfl) (by kernel_rfl) (.inr ⟨_, Take.eq (A := cel b2 [.int .i64 p.id, .bool p.more, .int .i64 p.off, .int .i64 p.ttl, .int .i64 p.proto, .int .u8 p.s0, .int .u8 p.s1, .int .u8 p.s2, .int .u8 p.s3, .int .u8 p.d0, .int .u8 p.d1, .int .u8 p.d2, .int .u8 p.d3, .string p.data] 41)⟩) (opv_fieldAddr0 rfl) rfl ?_
    | refine R_pure 4 rfl (by kernel_rfl) (by kernel_rfl) (by kernel_rfl) (by kernel_rfl) (.inr ⟨_, Take.eq (A := cel b2 [.int .i64 p.id, .bool p.more, .int .i64 p.off, .int .i64 p.ttl, .int .i64 p.proto, .int .u8 p.s0, .int .u8 p.s1, .int .u8 p.s2, .int .u8 p.s3, .int .u8 p.d0, .int .u8 p.d1, .int .u8 p.d2, .int .u8 p.d3, .string p.data] 41)⟩) (opv_fieldAddr rfl) rfl ?_
  refine R_take 5 rfl (by kernel_rfl) (by kernel_rfl) (by kernel_rfl) (by kernel_rfl) (by kernel_rfl) (opv_load rfl (Rd.look rfl)) rfl ?_
  first
    | refine R_pure 6 rfl (by kernel_rfl) (by kernel_rfl) (by kernel_rfl) (by kernel_rfl) (.inr ⟨_, Take.eq (A := cel b2 [.int .i64 p.id, .bool p.more, .int .i64 p.off, .int .i64 p.ttl, .int .i64 p.proto, .int .u8 p.s0, .int .u8 p.s1, .int .u8 p.s2, .int .u8 p.s3, .int .u8 p.d0, .int .u8 p.d1, .int .u8 p.d2, .int .u8 p.d3, .string p.data] 41)⟩) (opv_fieldAddr0 rfl) rfl ?_
    | refine R_pure 6 rfl (by kernel_rfl) (by kernel_rfl) (by kernel_rfl) (by kernel_rfl) (.inr ⟨_, Take.eq (A := cel b2 [.int .i64 p.id, .bool p.more, .int .i64 p.off, .int .i64 p.ttl, .int .i64 p.proto, .int .u8 p.s0, .int .u8 p.s1, .int .u8 p.s2, .int .u8 p.s3, .int .u8 p.d0, .int .u8 p.d1, .int .u8 p.d2, .int .u8 p.d3, .string p.data] 41)⟩) (opv_fieldAddr rfl) rfl ?_
  refine R_take 7 rfl (by kernel_rfl) (by kernel_rfl) (by kernel_rfl) (by kernel_rfl) (by kernel_rfl) (opv_load rfl (Rd.look rfl)) rfl ?_
  first
    | refine R_pure 8 rfl (by kernel_rfl) (by kernel_rfl) (by kernel_rfl) (by kernel_rfl) (.inr ⟨_, Take.eq (A := cel b2 [.int .i64 p.id, .bool p.more, .int .i64 p.off, .int .i64 p.ttl, .int .i64 p.proto, .int .u8 p.s0, .int .u8 p.s1, .int .u8 p.s2, .int .u8 p.s3, .int .u8 p.d0, .int .u8 p.d1, .int .u8 p.d2, .int .u8 p.d3, .string p.data] 41)⟩) (opv_fieldAddr0 rfl) rfl ?_
    | refine R_pure 8 rfl (by kernel_rfl) (by kernel_rfl) (by kernel_rfl) (by kernel_rfl) (.inr ⟨_, Take.eq (A := cel b2 [.int .i64 p.id, .bool p.more, .int .i64 p.off, .int .i64 p.ttl, .int .i64 p.proto, .int .u8 p.s0, .int .u8 p.s1, .int .u8 p.s2, .int .u8 p.s3, .int .u8 p.d0, .int .u8 p.d1, .int .u8 p.d2, .int .u8 p.d3, .string p.data] 41)⟩) (opv_fieldAddr rfl) rfl ?_
  refine R_take 9 rfl (by kernel_rfl) (by kernel_rfl) (by kernel_rfl) (by kernel_rfl) (by kernel_rfl) (opv_load rfl (Rd.look rfl)) rfl ?_
  first
    | refine R_pure 10 rfl (by kernel_rfl) (by kernel_rfl) (by kernel_rfl) (by kernel_rfl) (.inr ⟨_, Take.eq (A := cel b2 [.int .i64 p.id, .bool p.more, .int .i64 p.off, .int .i64 p.ttl, .int .i64 p.proto, .int .u8 p.s0, .int .u8 p.s1, .int .u8 p.s2, .int .u8 p.s3, .int .u8 p.d0, .int .u8 p.d1, .int .u8 p.d2, .int .u8 p.d3, .string p.data] 41)⟩) (opv_fieldAddr0 rfl) rfl ?_
    | refine R_pure 10 rfl (by kernel_rfl) (by kernel_rfl) (by kernel_rfl) (by kernel_rfl) (.inr ⟨_, Take.eq (A := cel b2 [.int .i64 p.id, .bool p.more, .int .i64 p.off, .int .i64 p.ttl, .int .i64 p.proto, .int .u8 p.s0, .int .u8 p.s1, .int .u8 p.s2, .int .u8 p.s3, .int .u8 p.d0, .int .u8 p.d1, .int .u8 p.d2, .int .u8 p.d3, .string p.data] 41)⟩) (opv_fieldAddr rfl) rfl ?_
  refine R_take 11 rfl (by kernel_rfl) (by kernel_rfl) (by kernel_rfl) (by kernel_rfl) (by kernel_rfl) (opv_loadS rfl) rfl ?_
  first
    | refine R_pure 13 rfl (by kernel_rfl) (by kernel_rfl) (by kernel_rfl) (by kernel_rfl) (.inr ⟨_, Take.eq (A := cel b2 [.int .i64 p.id, .bool p.more, .int .i64 p.off, .int .i64 p.ttl, .int .i64 p.proto, .int .u8 p.s0, .int .u8 p.s1, .int .u8 p.s2, .int .u8 p.s3, .int .u8 p.d0, .int .u8 p.d1, .int .u8 p.d2, .int .u8 p.d3, .string p.data] 41)⟩) (opv_fieldAddr0 rfl) rfl ?_
    | refine R_pure 13 rfl (by kernel_rfl) (by kernel_rfl) (by kernel_rfl) (by kernel_rfl) (.inr ⟨_, Take.eq (A := cel b2 [.int .i64 p.id, .bool p.more, .int .i64 p.off, .int .i64 p.ttl, .int .i64 p.proto, .int .u8 p.s0, .int .u8 p.s1, .int .u8 p.s2, .int .u8 p.s3, .int .u8 p.d0, .int .u8 p.d1, .int .u8 p.d2, .int .u8 p.d3, .string p.data] 41)⟩) (opv_fieldAddr rfl) rfl ?_
  refine R_take 14 rfl (by kernel_rfl) (by kernel_rfl) (by kernel_rfl) (by kernel_rfl) (by kernel_rfl) (opv_loadS rfl) rfl ?_
  first
    | refine R_pure 16 rfl (by kernel_rfl) (by kernel_rfl) (by kernel_rfl) (by kernel_rfl) (.inr ⟨_, Take.eq (A := cel b2 [.int .i64 p.id, .bool p.more, .int .i64 p.off, .int .i64 p.ttl, .int .i64 p.proto, .int .u8 p.s0, .int .u8 p.s1, .int .u8 p.s2, .int .u8 p.s3, .int .u8 p.d0, .int .u8 p.d1, .int .u8 p.d2, .int .u8 p.d3, .string p.data] 41)⟩) (opv_fieldAddr0 rfl) rfl ?_
    | refine R_pure 16 rfl (by kernel_rfl) (by kernel_rfl) (by kernel_rfl) (by kernel_rfl) (.inr ⟨_, Take.eq (A := cel b2 [.int .i64 p.id, .bool p.more, .int .i64 p.off, .int .i64 p.ttl, .int .i64 p.proto, .int .u8 p.s0, .int .u8 p.s1, .int .u8 p.s2, .int .u8 p.s3, .int .u8 p.d0, .int .u8 p.d1, .int .u8 p.d2, .int .u8 p.d3, .string p.data] 41)⟩) (opv_fieldAddr rfl) rfl ?_
  refine R_take 17 rfl (by kernel_rfl) (by kernel_rfl) (by kernel_rfl) (by kernel_rfl) (by kernel_rfl) (opv_load rfl (Rd.look rfl)) rfl ?_
  refine R_all [12, 19] (by kernel_rfl) rfl fun i hi => ?_
  simp only [List.mem_cons, List.not_mem_nil, or_false] at hi
  rcases hi with rfl | rfl
  · refine ⟨_, _, _, _, _, rfl, rfl, (opx_call0 (ip05_spec p.s0 p.s1 p.s2 p.s3 hp.src) rfl rfl rfl), fun _ _ => ⟨⟨_, Take.eq (A := cel b2 [.int .i64 p.id, .bool p.more, .int .i64 p.off, .int .i64 p.ttl, .int .i64 p.proto, .int .u8 p.s0, .int .u8 p.s1, .int .u8 p.s2, .int .u8 p.s3, .int .u8 p.d0, .int .u8 p.d1, .int .u8 p.d2, .int .u8 p.d3, .string p.data] 41)⟩, .inr ⟨_, Take.eq (A := cel b2 [.int .i64 p.id, .bool p.more, .int .i64 p.off, .int .i64 p.ttl, .int .i64 p.proto, .int .u8 p.s0, .int .u8 p.s1, .int .u8 p.s2, .int .u8 p.s3, .int .u8 p.d0, .int .u8 p.d1, .int .u8 p.d2, .int .u8 p.d3, .string p.data] 41)⟩, ?_⟩⟩
    refine Rg_emp ?_
    refine R_all [15, 19] (by kernel_rfl) rfl fun i hi => ?_
    simp only [List.mem_cons, List.not_mem_nil, or_false] at hi
    rcases hi with rfl | rfl
    · refine ⟨_, _, _, _, _, rfl, rfl, (opx_call0 (ip05_spec p.d0 p.d1 p.d2 p.d3 hp.dst) rfl rfl rfl), fun _ _ => ⟨⟨_, Take.eq (A := cel b2 [.int .i64 p.id, .bool p.more, .int .i64 p.off, .int .i64 p.ttl, .int .i64 p.proto, .int .u8 p.s0, .int .u8 p.s1, .int .u8 p.s2, .int .u8 p.s3, .int .u8 p.d0, .int .u8 p.d1, .int .u8 p.d2, .int .u8 p.d3, .string p.data] 41)⟩, .inr ⟨_, Take.eq (A := cel b2 [.int .i64 p.id, .bool p.more, .int .i64 p.off, .int .i64 p.ttl, .int .i64 p.proto, .int .u8 p.s0, .int .u8 p.s1, .int .u8 p.s2, .int .u8 p.s3, .int .u8 p.d0, .int .u8 p.d1, .int .u8 p.d2, .int .u8 p.d3, .string p.data] 41)⟩, ?_⟩⟩
      refine Rg_emp ?_
      refine R_pure 18 rfl (by kernel_rfl) (by kernel_rfl) (by kernel_rfl) (by kernel_rfl) (.inr ⟨_, Take.eq (A := cel b2 [.int .i64 p.id, .bool p.more, .int .i64 p.off, .int .i64 p.ttl, .int .i64 p.proto, .int .u8 p.s0, .int .u8 p.s1, .int .u8 p.s2, .int .u8 p.s3, .int .u8 p.d0, .int .u8 p.d1, .int .u8 p.d2, .int .u8 p.d3, .string p.data] 41)⟩) (opv_build rfl) rfl ?_
      refine R_only 19 rfl rfl (by kernel_rfl) (opx_alloc rfl) (fun _ _ => ⟨_, Take.eq (A := cel b2 [.int .i64 p.id, .bool p.more, .int .i64 p.off, .int .i64 p.ttl, .int .i64 p.proto, .int .u8 p.s0, .int .u8 p.s1, .int .u8 p.s2, .int .u8 p.s3, .int .u8 p.d0, .int .u8 p.d1, .int .u8 p.d2, .int .u8 p.d3, .string p.data] 41)⟩) (.inr fun _ _ => ⟨_, Take.eq (A := cel b2 [.int .i64 p.id, .bool p.more, .int .i64 p.off, .int .i64 p.ttl, .int .i64 p.proto, .int .u8 p.s0, .int .u8 p.s1, .int .u8 p.s2, .int .u8 p.s3, .int .u8 p.d0, .int .u8 p.d1, .int .u8 p.d2, .int .u8 p.d3, .string p.data] 41)⟩) (fun b5 _ => ?_)
      refine R_only 20 rfl rfl (by kernel_rfl) (opx_store rfl rfl rfl (by simp [Value.oneCell'])) (fun _ _ => ⟨_, Take.eq (A := cel b2 [.int .i64 p.id, .bool p.more, .int .i64 p.off, .int .i64 p.ttl, .int .i64 p.proto, .int .u8 p.s0, .int .u8 p.s1, .int .u8 p.s2, .int .u8 p.s3, .int .u8 p.d0, .int .u8 p.d1, .int .u8 p.d2, .int .u8 p.d3, .string p.data] 41)⟩) (.inr fun _ _ => ⟨_, Take.eq (A := cel b2 [.int .i64 p.id, .bool p.more, .int .i64 p.off, .int .i64 p.ttl, .int .i64 p.proto, .int .u8 p.s0, .int .u8 p.s1, .int .u8 p.s2, .int .u8 p.s3, .int .u8 p.d0, .int .u8 p.d1, .int .u8 p.d2, .int .u8 p.d3, .string p.data] 41)⟩) (fun _ _ => ?_)
      refine R_done (by kernel_rfl) ?_
      refine K_then ?_
      refine J_seq ?_
      refine J_seq ?_
      refine J_region ?_
      refine L_v (opv_move rfl) rfl ?_
      refine L_v (opv_move rfl) rfl ?_
      refine L_gskip rfl rfl rfl ?_ (fun _ h => by cases h; rfl)
      refine L_gskip rfl rfl rfl ?_ (fun _ h => by cases h; rfl)
      refine L_gskip rfl rfl rfl ?_ (fun _ h => by cases h; rfl)
      refine L_gskip rfl rfl rfl ?_ (fun _ h => by cases h; rfl)
      first
        | refine L_v (opv_pick_tt rfl rfl) rfl ?_
        | refine L_v (opv_pick_ff rfl rfl) rfl ?_
        | refine L_v (opv_pick rfl rfl rfl) rfl ?_
      refine L_v (opv_move rfl) rfl ?_
      refine L_gskip rfl rfl rfl ?_ (fun _ h => by cases h; rfl)
      refine L_gskip rfl rfl rfl ?_ (fun _ h => by cases h; rfl)
      refine L_gskip rfl rfl rfl ?_ (fun _ h => by cases h; rfl)
      refine L_gskip rfl rfl rfl ?_ (fun _ h => by cases h; rfl)
      first
        | refine L_v (opv_pick_tt rfl rfl) rfl ?_
        | refine L_v (opv_pick_ff rfl rfl) rfl ?_
        | refine L_v (opv_pick rfl rfl rfl) rfl ?_
      refine L_nil ?_
      refine K_then ?_
      refine J_cond_false rfl ?_
      refine J_skip ?_
      refine K_then ?_
      refine J_seq ?_
      refine J_region ?_
      refine L_v (opv_loadS rfl) rfl ?_
      refine L_x rfl (opx_store rfl rfl rfl (by simp [Value.oneCell'])) (fun _ _ => ?_)
      refine L_nil ?_
      refine K_then ?_
      refine J_ret ?_
      exact K_ret1c (Q := fun _ _ _ => True) rfl rfl rfl () trivial rfl Ent.take
    · refine ⟨_, _, _, _, _, rfl, rfl, (opx_alloc rfl), fun b5 _ => ⟨⟨_, Take.eq (A := cel b2 [.int .i64 p.id, .bool p.more, .int .i64 p.off, .int .i64 p.ttl, .int .i64 p.proto, .int .u8 p.s0, .int .u8 p.s1, .int .u8 p.s2, .int .u8 p.s3, .int .u8 p.d0, .int .u8 p.d1, .int .u8 p.d2, .int .u8 p.d3, .string p.data] 41)⟩, .inr ⟨_, Take.eq (A := cel b2 [.int .i64 p.id, .bool p.more, .int .i64 p.off, .int .i64 p.ttl, .int .i64 p.proto, .int .u8 p.s0, .int .u8 p.s1, .int .u8 p.s2, .int .u8 p.s3, .int .u8 p.d0, .int .u8 p.d1, .int .u8 p.d2, .int .u8 p.d3, .string p.data] 41)⟩, ?_⟩⟩
      refine R_only 15 rfl rfl (by kernel_rfl) (opx_call0 (ip05_spec p.d0 p.d1 p.d2 p.d3 hp.dst) rfl rfl rfl) (fun _ _ => ⟨_, Take.eq (A := cel b2 [.int .i64 p.id, .bool p.more, .int .i64 p.off, .int .i64 p.ttl, .int .i64 p.proto, .int .u8 p.s0, .int .u8 p.s1, .int .u8 p.s2, .int .u8 p.s3, .int .u8 p.d0, .int .u8 p.d1, .int .u8 p.d2, .int .u8 p.d3, .string p.data] 41)⟩) (.inr fun _ _ => ⟨_, Take.eq (A := cel b2 [.int .i64 p.id, .bool p.more, .int .i64 p.off, .int .i64 p.ttl, .int .i64 p.proto, .int .u8 p.s0, .int .u8 p.s1, .int .u8 p.s2, .int .u8 p.s3, .int .u8 p.d0, .int .u8 p.d1, .int .u8 p.d2, .int .u8 p.d3, .string p.data] 41)⟩) (fun _ _ => ?_)
      refine Rg_emp ?_
      refine R_pure 18 rfl (by kernel_rfl) (by kernel_rfl) (by kernel_rfl) (by kernel_rfl) (.inr ⟨_, Take.eq (A := cel b2 [.int .i64 p.id, .bool p.more, .int .i64 p.off, .int .i64 p.ttl, .int .i64 p.proto, .int .u8 p.s0, .int .u8 p.s1, .int .u8 p.s2, .int .u8 p.s3, .int .u8 p.d0, .int .u8 p.d1, .int .u8 p.d2, .int .u8 p.d3, .string p.data] 41)⟩) (opv_build rfl) rfl ?_
      refine R_only 20 rfl rfl (by kernel_rfl) (opx_store rfl rfl rfl (by simp [Value.oneCell'])) (fun _ _ => ⟨_, Take.eq (A := cel b2 [.int .i64 p.id, .bool p.more, .int .i64 p.off, .int .i64 p.ttl, .int .i64 p.proto, .int .u8 p.s0, .int .u8 p.s1, .int .u8 p.s2, .int .u8 p.s3, .int .u8 p.d0, .int .u8 p.d1, .int .u8 p.d2, .int .u8 p.d3, .string p.data] 41)⟩) (.inr fun _ _ => ⟨_, Take.eq (A := cel b2 [.int .i64 p.id, .bool p.more, .int .i64 p.off, .int .i64 p.ttl, .int .i64 p.proto, .int .u8 p.s0, .int .u8 p.s1, .int .u8 p.s2, .int .u8 p.s3, .int .u8 p.d0, .int .u8 p.d1, .int .u8 p.d2, .int .u8 p.d3, .string p.data] 41)⟩) (fun _ _ => ?_)
      refine R_done (by kernel_rfl) ?_
      refine K_then ?_
      refine J_seq ?_
      refine J_seq ?_
      refine J_region ?_
      refine L_v (opv_move rfl) rfl ?_
      refine L_v (opv_move rfl) rfl ?_
      refine L_gskip rfl rfl rfl ?_ (fun _ h => by cases h; rfl)
      refine L_gskip rfl rfl rfl ?_ (fun _ h => by cases h; rfl)
      refine L_gskip rfl rfl rfl ?_ (fun _ h => by cases h; rfl)
      refine L_gskip rfl rfl rfl ?_ (fun _ h => by cases h; rfl)
      first
        | refine L_v (opv_pick_tt rfl rfl) rfl ?_
        | refine L_v (opv_pick_ff rfl rfl) rfl ?_
        | refine L_v (opv_pick rfl rfl rfl) rfl ?_
      refine L_v (opv_move rfl) rfl ?_
      refine L_gskip rfl rfl rfl ?_ (fun _ h => by cases h; rfl)
      refine L_gskip rfl rfl rfl ?_ (fun _ h => by cases h; rfl)
      refine L_gskip rfl rfl rfl ?_ (fun _ h => by cases h; rfl)
      refine L_gskip rfl rfl rfl ?_ (fun _ h => by cases h; rfl)
      first
        | refine L_v (opv_pick_tt rfl rfl) rfl ?_
        | refine L_v (opv_pick_ff rfl rfl) rfl ?_
        | refine L_v (opv_pick rfl rfl rfl) rfl ?_
      refine L_nil ?_
      refine K_then ?_
      refine J_cond_false rfl ?_
      refine J_skip ?_
      refine K_then ?_
      refine J_seq ?_
      refine J_region ?_
      refine L_v (opv_loadS rfl) rfl ?_
      refine L_x rfl (opx_store rfl rfl rfl (by simp [Value.oneCell'])) (fun _ _ => ?_)
      refine L_nil ?_
      refine K_then ?_
      refine J_ret ?_
      exact K_ret1c (Q := fun _ _ _ => True) rfl rfl rfl () trivial rfl Ent.take
  · refine ⟨_, _, _, _, _, rfl, rfl, (opx_alloc rfl), fun b5 _ => ⟨⟨_, Take.eq (A := cel b2 [.int .i64 p.id, .bool p.more, .int .i64 p.off, .int .i64 p.ttl, .int .i64 p.proto, .int .u8 p.s0, .int .u8 p.s1, .int .u8 p.s2, .int .u8 p.s3, .int .u8 p.d0, .int .u8 p.d1, .int .u8 p.d2, .int .u8 p.d3, .string p.data] 41)⟩, .inr ⟨_, Take.eq (A := cel b2 [.int .i64 p.id, .bool p.more, .int .i64 p.off, .int .i64 p.ttl, .int .i64 p.proto, .int .u8 p.s0, .int .u8 p.s1, .int .u8 p.s2, .int .u8 p.s3, .int .u8 p.d0, .int .u8 p.d1, .int .u8 p.d2, .int .u8 p.d3, .string p.data] 41)⟩, ?_⟩⟩
    refine R_only 12 rfl rfl (by kernel_rfl) (opx_call0 (ip05_spec p.s0 p.s1 p.s2 p.s3 hp.src) rfl rfl rfl) (fun _ _ => ⟨_, Take.eq (A := cel b2 [.int .i64 p.id, .bool p.more, .int .i64 p.off, .int .i64 p.ttl, .int .i64 p.proto, .int .u8 p.s0, .int .u8 p.s1, .int .u8 p.s2, .int .u8 p.s3, .int .u8 p.d0, .int .u8 p.d1, .int .u8 p.d2, .int .u8 p.d3, .string p.data] 41)⟩) (.inr fun _ _ => ⟨_, Take.eq (A := cel b2 [.int .i64 p.id, .bool p.more, .int .i64 p.off, .int .i64 p.ttl, .int .i64 p.proto, .int .u8 p.s0, .int .u8 p.s1, .int .u8 p.s2, .int .u8 p.s3, .int .u8 p.d0, .int .u8 p.d1, .int .u8 p.d2, .int .u8 p.d3, .string p.data] 41)⟩) (fun _ _ => ?_)
    refine Rg_emp ?_
    refine R_only 15 rfl rfl (by kernel_rfl) (opx_call0 (ip05_spec p.d0 p.d1 p.d2 p.d3 hp.dst) rfl rfl rfl) (fun _ _ => ⟨_, Take.eq (A := cel b2 [.int .i64 p.id, .bool p.more, .int .i64 p.off, .int .i64 p.ttl, .int .i64 p.proto, .int .u8 p.s0, .int .u8 p.s1, .int .u8 p.s2, .int .u8 p.s3, .int .u8 p.d0, .int .u8 p.d1, .int .u8 p.d2, .int .u8 p.d3, .string p.data] 41)⟩) (.inr fun _ _ => ⟨_, Take.eq (A := cel b2 [.int .i64 p.id, .bool p.more, .int .i64 p.off, .int .i64 p.ttl, .int .i64 p.proto, .int .u8 p.s0, .int .u8 p.s1, .int .u8 p.s2, .int .u8 p.s3, .int .u8 p.d0, .int .u8 p.d1, .int .u8 p.d2, .int .u8 p.d3, .string p.data] 41)⟩) (fun _ _ => ?_)
    refine Rg_emp ?_
    refine R_pure 18 rfl (by kernel_rfl) (by kernel_rfl) (by kernel_rfl) (by kernel_rfl) (.inr ⟨_, Take.eq (A := cel b2 [.int .i64 p.id, .bool p.more, .int .i64 p.off, .int .i64 p.ttl, .int .i64 p.proto, .int .u8 p.s0, .int .u8 p.s1, .int .u8 p.s2, .int .u8 p.s3, .int .u8 p.d0, .int .u8 p.d1, .int .u8 p.d2, .int .u8 p.d3, .string p.data] 41)⟩) (opv_build rfl) rfl ?_
    refine R_only 20 rfl rfl (by kernel_rfl) (opx_store rfl rfl rfl (by simp [Value.oneCell'])) (fun _ _ => ⟨_, Take.eq (A := cel b2 [.int .i64 p.id, .bool p.more, .int .i64 p.off, .int .i64 p.ttl, .int .i64 p.proto, .int .u8 p.s0, .int .u8 p.s1, .int .u8 p.s2, .int .u8 p.s3, .int .u8 p.d0, .int .u8 p.d1, .int .u8 p.d2, .int .u8 p.d3, .string p.data] 41)⟩) (.inr fun _ _ => ⟨_, Take.eq (A := cel b2 [.int .i64 p.id, .bool p.more, .int .i64 p.off, .int .i64 p.ttl, .int .i64 p.proto, .int .u8 p.s0, .int .u8 p.s1, .int .u8 p.s2, .int .u8 p.s3, .int .u8 p.d0, .int .u8 p.d1, .int .u8 p.d2, .int .u8 p.d3, .string p.data] 41)⟩) (fun _ _ => ?_)
    refine R_done (by kernel_rfl) ?_
    refine K_then ?_
    refine J_seq ?_
    refine J_seq ?_
    refine J_region ?_
    refine L_v (opv_move rfl) rfl ?_
    refine L_v (opv_move rfl) rfl ?_
    refine L_gskip rfl rfl rfl ?_ (fun _ h => by cases h; rfl)
    refine L_gskip rfl rfl rfl ?_ (fun _ h => by cases h; rfl)
    refine L_gskip rfl rfl rfl ?_ (fun _ h => by cases h; rfl)
    refine L_gskip rfl rfl rfl ?_ (fun _ h => by cases h; rfl)
    first
      | refine L_v (opv_pick_tt rfl rfl) rfl ?_
      | refine L_v (opv_pick_ff rfl rfl) rfl ?_
      | refine L_v (opv_pick rfl rfl rfl) rfl ?_
    refine L_v (opv_move rfl) rfl ?_
    refine L_gskip rfl rfl rfl ?_ (fun _ h => by cases h; rfl)
    refine L_gskip rfl rfl rfl ?_ (fun _ h => by cases h; rfl)
    refine L_gskip rfl rfl rfl ?_ (fun _ h => by cases h; rfl)
    refine L_gskip rfl rfl rfl ?_ (fun _ h => by cases h; rfl)
    first
      | refine L_v (opv_pick_tt rfl rfl) rfl ?_
      | refine L_v (opv_pick_ff rfl rfl) rfl ?_
      | refine L_v (opv_pick rfl rfl rfl) rfl ?_
    refine L_nil ?_
    refine K_then ?_
    refine J_cond_false rfl ?_
    refine J_skip ?_
    refine K_then ?_
    refine J_seq ?_
    refine J_region ?_
    refine L_v (opv_loadS rfl) rfl ?_
    refine L_x rfl (opx_store rfl rfl rfl (by simp [Value.oneCell'])) (fun _ _ => ?_)
    refine L_nil ?_
    refine K_then ?_
    refine J_ret ?_
    exact K_ret1c (Q := fun _ _ _ => True) rfl rfl rfl () trivial rfl Ent.take

theorem Plain05_z  : FSpec Try.prog 22 #[.agg [.int .i64 0, .bool false, .int .i64 0, .int .i64 0, .int .i64 0, .int .u8 0, .int .u8 0, .int .u8 0, .int .u8 0, .int .u8 0, .int .u8 0, .int .u8 0, .int .u8 0, .string ⟨#[]⟩].toArray, .bool true] (emp) (fun _ : Unit => True) (fun _ => .agg rzL.toArray) (fun _ => emp) := by
  refine FSpec.enter' Try.func22 rfl Try.ntmps22 rfl fun σ F => ?_
  refine J_emp ?_
  refine J_seq ?_
  refine J_region ?_
  refine L_x rfl (opx_box (l := [.int .i64 0, .bool false, .int .i64 0, .int .i64 0, .int .i64 0, .int .u8 0, .int .u8 0, .int .u8 0, .int .u8 0, .int .u8 0, .int .u8 0, .int .u8 0, .int .u8 0, .string ⟨#[]⟩]) rfl rfl) (fun b2 _ => ?_)
  refine L_x rfl (opx_alloc rfl) (fun b4 _ => ?_)
  refine L_nil ?_
  refine K_then ?_
  refine J_seq ?_
  refine J_steps (cel b2 [.int .i64 0, .bool false, .int .i64 0, .int .i64 0, .int .i64 0, .int .u8 0, .int .u8 0, .int .u8 0, .int .u8 0, .int .u8 0, .int .u8 0, .int .u8 0, .int .u8 0, .string ⟨#[]⟩] 41) (cel b2 [.int .i64 0, .bool false, .int .i64 0, .int .i64 0, .int .i64 0, .int .u8 0, .int .u8 0, .int .u8 0, .int .u8 0, .int .u8 0, .int .u8 0, .int .u8 0, .int .u8 0, .string ⟨#[]⟩] 41) [] Try.mixed ?_
  first
    | refine R_pure 0 rfl (by kernel_rfl) (by kernel_rfl) (by kernel_rfl) (by kernel_rfl) (.inr ⟨_, Take.eq (A := cel b2 [.int .i64 0, .bool false, .int .i64 0, .int .i64 0, .int .i64 0, .int .u8 0, .int .u8 0, .int .u8 0, .int .u8 0, .int .u8 0, .int .u8 0, .int .u8 0, .int .u8 0, .string ⟨#[]⟩] 41)⟩) (opv_fieldAddr0 rfl) rfl ?_
    | refine R_pure 0 rfl (by kernel_rfl) (by kernel_rfl) (by kernel_rfl) (by kernel_rfl) (.inr ⟨_, Take.eq (A := cel b2 [.int .i64 0, .bool false, .int .i64 0, .int .i64 0, .int .i64 0, .int .u8 0, .int .u8 0, .int .u8 0, .int .u8 0, .int .u8 0, .int .u8 0, .int .u8 0, .int .u8 0, .string ⟨#[]⟩] 41)⟩) (opv_fieldAddr rfl) rfl ?_
  refine R_take 1 rfl (by kernel_rfl) (by kernel_rfl) (by kernel_rfl) (by kernel_rfl) (by kernel_rfl) (opv_load rfl (Rd.look rfl)) rfl ?_
  first
    | refine R_pure 2 rfl (by kernel_rfl) (by kernel_rfl) (by kernel_rfl) (by kernel_rfl) (.inr ⟨_, Take.eq (A := cel b2 [.int .i64 0, .bool false, .int .i64 0, .int .i64 0, .int .i64 0, .int .u8 0, .int .u8 0, .int .u8 0, .int .u8 0, .int .u8 0, .int .u8 0, .int .u8 0, .int .u8 0, .string ⟨#[]⟩] 41)⟩) (opv_fieldAddr0 rfl) rfl ?_
    | refine R_pure 2 rfl (by kernel_rfl) (by kernel_rfl) (by kernel_rfl) (by kernel_rfl) (.inr ⟨_, Take.eq (A := cel b2 [.int .i64 0, .bool false, .int .i64 0, .int .i64 0, .int .i64 0, .int .u8 0, .int .u8 0, .int .u8 0, .int .u8 0, .int .u8 0, .int .u8 0, .int .u8 0, .int .u8 0, .string ⟨#[]⟩] 41)⟩) (opv_fieldAddr rfl) rfl ?_
  refine R_take 3 rfl (by kernel_rfl) (by kernel_rfl) (by kernel_rfl) (by kernel_rfl) (by kernel_rfl) (opv_load rfl (Rd.look rfl)) rfl ?_
  first
    | refine R_pure 4 rfl (by kernel_rfl) (by kernel_rfl) (by kernel_rfl) (by kernel_rfl) (.inr ⟨_, Take.eq (A := cel b2 [.int .i64 0, .bool false, .int .i64 0, .int .i64 0, .int .i64 0, .int .u8 0, .int .u8 0, .int .u8 0, .int .u8 0, .int .u8 0, .int .u8 0, .int .u8 0, .int .u8 0, .string ⟨#[]⟩] 41)⟩) (opv_fieldAddr0 rfl) rfl ?_
    | refine R_pure 4 rfl (by kernel_rfl) (by kernel_rfl) (by kernel_rfl) (by kernel_rfl) (.inr ⟨_, Take.eq (A := cel b2 [.int .i64 0, .bool false, .int .i64 0, .int .i64 0, .int .i64 0, .int .u8 0, .int .u8 0, .int .u8 0, .int .u8 0, .int .u8 0, .int .u8 0, .int .u8 0, .int .u8 0, .string ⟨#[]⟩] 41)⟩) (opv_fieldAddr rfl) rfl ?_
  refine R_take 5 rfl (by kernel_rfl) (by kernel_rfl) (by kernel_rfl) (by kernel_rfl) (by kernel_rfl) (opv_load rfl (Rd.look rfl)) rfl ?_
  first
    | refine R_pure 6 rfl (by kernel_rfl) (by kernel_rfl) (by kernel_rfl) (by kernel_rfl) (.inr ⟨_, Take.eq (A := cel b2 [.int .i64 0, .bool false, .int .i64 0, .int .i64 0, .int .i64 0, .int .u8 0, .int .u8 0, .int .u8 0, .int .u8 0, .int .u8 0, .int .u8 0, .int .u8 0, .int .u8 0, .string ⟨#[]⟩] 41)⟩) (opv_fieldAddr0 rfl) rfl ?_
    | refine R_pure 6 rfl (by kernel_rfl) (by kernel_rfl) (by kernel_rfl) (by kernel_rfl) (.inr ⟨_, Take.eq (A := cel b2 [.int .i64 0, .bool false, .int .i64 0, .int .i64 0, .int .i64 0, .int .u8 0, .int .u8 0, .int .u8 0, .int .u8 0, .int .u8 0, .int .u8 0, .int .u8 0, .int .u8 0, .string ⟨#[]⟩] 41)⟩) (opv_fieldAddr rfl) rfl ?_
  refine R_take 7 rfl (by kernel_rfl) (by kernel_rfl) (by kernel_rfl) (by kernel_rfl) (by kernel_rfl) (opv_load rfl (Rd.look rfl)) rfl ?_
  first
    | refine R_pure 8 rfl (by kernel_rfl) (by kernel_rfl) (by kernel_rfl) (by kernel_rfl) (.inr ⟨_, Take.eq (A := cel b2 [.int .i64 0, .bool false, .int .i64 0, .int .i64 0, .int .i64 0, .int .u8 0, .int .u8 0, .int .u8 0, .int .u8 0, .int .u8 0, .int .u8 0, .int .u8 0, .int .u8 0, .string ⟨#[]⟩] 41)⟩) (opv_fieldAddr0 rfl) rfl ?_
    | refine R_pure 8 rfl (by kernel_rfl) (by kernel_rfl) (by kernel_rfl) (by kernel_rfl) (.inr ⟨_, Take.eq (A := cel b2 [.int .i64 0, .bool false, .int .i64 0, .int .i64 0, .int .i64 0, .int .u8 0, .int .u8 0, .int .u8 0, .int .u8 0, .int .u8 0, .int .u8 0, .int .u8 0, .int .u8 0, .string ⟨#[]⟩] 41)⟩) (opv_fieldAddr rfl) rfl ?_
  refine R_take 9 rfl (by kernel_rfl) (by kernel_rfl) (by kernel_rfl) (by kernel_rfl) (by kernel_rfl) (opv_load rfl (Rd.look rfl)) rfl ?_
  first
    | refine R_pure 10 rfl (by kernel_rfl) (by kernel_rfl) (by kernel_rfl) (by kernel_rfl) (.inr ⟨_, Take.eq (A := cel b2 [.int .i64 0, .bool false, .int .i64 0, .int .i64 0, .int .i64 0, .int .u8 0, .int .u8 0, .int .u8 0, .int .u8 0, .int .u8 0, .int .u8 0, .int .u8 0, .int .u8 0, .string ⟨#[]⟩] 41)⟩) (opv_fieldAddr0 rfl) rfl ?_
    | refine R_pure 10 rfl (by kernel_rfl) (by kernel_rfl) (by kernel_rfl) (by kernel_rfl) (.inr ⟨_, Take.eq (A := cel b2 [.int .i64 0, .bool false, .int .i64 0, .int .i64 0, .int .i64 0, .int .u8 0, .int .u8 0, .int .u8 0, .int .u8 0, .int .u8 0, .int .u8 0, .int .u8 0, .int .u8 0, .string ⟨#[]⟩] 41)⟩) (opv_fieldAddr rfl) rfl ?_
  refine R_take 11 rfl (by kernel_rfl) (by kernel_rfl) (by kernel_rfl) (by kernel_rfl) (by kernel_rfl) (opv_loadS rfl) rfl ?_
  first
    | refine R_pure 13 rfl (by kernel_rfl) (by kernel_rfl) (by kernel_rfl) (by kernel_rfl) (.inr ⟨_, Take.eq (A := cel b2 [.int .i64 0, .bool false, .int .i64 0, .int .i64 0, .int .i64 0, .int .u8 0, .int .u8 0, .int .u8 0, .int .u8 0, .int .u8 0, .int .u8 0, .int .u8 0, .int .u8 0, .string ⟨#[]⟩] 41)⟩) (opv_fieldAddr0 rfl) rfl ?_
    | refine R_pure 13 rfl (by kernel_rfl) (by kernel_rfl) (by kernel_rfl) (by kernel_rfl) (.inr ⟨_, Take.eq (A := cel b2 [.int .i64 0, .bool false, .int .i64 0, .int .i64 0, .int .i64 0, .int .u8 0, .int .u8 0, .int .u8 0, .int .u8 0, .int .u8 0, .int .u8 0, .int .u8 0, .int .u8 0, .string ⟨#[]⟩] 41)⟩) (opv_fieldAddr rfl) rfl ?_
  refine R_take 14 rfl (by kernel_rfl) (by kernel_rfl) (by kernel_rfl) (by kernel_rfl) (by kernel_rfl) (opv_loadS rfl) rfl ?_
  first
    | refine R_pure 16 rfl (by kernel_rfl) (by kernel_rfl) (by kernel_rfl) (by kernel_rfl) (.inr ⟨_, Take.eq (A := cel b2 [.int .i64 0, .bool false, .int .i64 0, .int .i64 0, .int .i64 0, .int .u8 0, .int .u8 0, .int .u8 0, .int .u8 0, .int .u8 0, .int .u8 0, .int .u8 0, .int .u8 0, .string ⟨#[]⟩] 41)⟩) (opv_fieldAddr0 rfl) rfl ?_
    | refine R_pure 16 rfl (by kernel_rfl) (by kernel_rfl) (by kernel_rfl) (by kernel_rfl) (.inr ⟨_, Take.eq (A := cel b2 [.int .i64 0, .bool false, .int .i64 0, .int .i64 0, .int .i64 0, .int .u8 0, .int .u8 0, .int .u8 0, .int .u8 0, .int .u8 0, .int .u8 0, .int .u8 0, .int .u8 0, .string ⟨#[]⟩] 41)⟩) (opv_fieldAddr rfl) rfl ?_
  refine R_take 17 rfl (by kernel_rfl) (by kernel_rfl) (by kernel_rfl) (by kernel_rfl) (by kernel_rfl) (opv_load rfl (Rd.look rfl)) rfl ?_
  refine R_all [12, 19] (by kernel_rfl) rfl fun i hi => ?_
  simp only [List.mem_cons, List.not_mem_nil, or_false] at hi
  rcases hi with rfl | rfl
  · refine ⟨_, _, _, _, _, rfl, rfl, (opx_call0 (ip05_spec 0 0 0 0 (by decide)) rfl rfl rfl), fun _ _ => ⟨⟨_, Take.eq (A := cel b2 [.int .i64 0, .bool false, .int .i64 0, .int .i64 0, .int .i64 0, .int .u8 0, .int .u8 0, .int .u8 0, .int .u8 0, .int .u8 0, .int .u8 0, .int .u8 0, .int .u8 0, .string ⟨#[]⟩] 41)⟩, .inr ⟨_, Take.eq (A := cel b2 [.int .i64 0, .bool false, .int .i64 0, .int .i64 0, .int .i64 0, .int .u8 0, .int .u8 0, .int .u8 0, .int .u8 0, .int .u8 0, .int .u8 0, .int .u8 0, .int .u8 0, .string ⟨#[]⟩] 41)⟩, ?_⟩⟩
    refine Rg_emp ?_
    refine R_all [15, 19] (by kernel_rfl) rfl fun i hi => ?_
    simp only [List.mem_cons, List.not_mem_nil, or_false] at hi
    rcases hi with rfl | rfl
    · refine ⟨_, _, _, _, _, rfl, rfl, (opx_call0 (ip05_spec 0 0 0 0 (by decide)) rfl rfl rfl), fun _ _ => ⟨⟨_, Take.eq (A := cel b2 [.int .i64 0, .bool false, .int .i64 0, .int .i64 0, .int .i64 0, .int .u8 0, .int .u8 0, .int .u8 0, .int .u8 0, .int .u8 0, .int .u8 0, .int .u8 0, .int .u8 0, .string ⟨#[]⟩] 41)⟩, .inr ⟨_, Take.eq (A := cel b2 [.int .i64 0, .bool false, .int .i64 0, .int .i64 0, .int .i64 0, .int .u8 0, .int .u8 0, .int .u8 0, .int .u8 0, .int .u8 0, .int .u8 0, .int .u8 0, .int .u8 0, .string ⟨#[]⟩] 41)⟩, ?_⟩⟩
      refine Rg_emp ?_
      refine R_pure 18 rfl (by kernel_rfl) (by kernel_rfl) (by kernel_rfl) (by kernel_rfl) (.inr ⟨_, Take.eq (A := cel b2 [.int .i64 0, .bool false, .int .i64 0, .int .i64 0, .int .i64 0, .int .u8 0, .int .u8 0, .int .u8 0, .int .u8 0, .int .u8 0, .int .u8 0, .int .u8 0, .int .u8 0, .string ⟨#[]⟩] 41)⟩) (opv_build rfl) rfl ?_
      refine R_only 19 rfl rfl (by kernel_rfl) (opx_alloc rfl) (fun _ _ => ⟨_, Take.eq (A := cel b2 [.int .i64 0, .bool false, .int .i64 0, .int .i64 0, .int .i64 0, .int .u8 0, .int .u8 0, .int .u8 0, .int .u8 0, .int .u8 0, .int .u8 0, .int .u8 0, .int .u8 0, .string ⟨#[]⟩] 41)⟩) (.inr fun _ _ => ⟨_, Take.eq (A := cel b2 [.int .i64 0, .bool false, .int .i64 0, .int .i64 0, .int .i64 0, .int .u8 0, .int .u8 0, .int .u8 0, .int .u8 0, .int .u8 0, .int .u8 0, .int .u8 0, .int .u8 0, .string ⟨#[]⟩] 41)⟩) (fun b5 _ => ?_)
      refine R_only 20 rfl rfl (by kernel_rfl) (opx_store rfl rfl rfl (by simp [Value.oneCell'])) (fun _ _ => ⟨_, Take.eq (A := cel b2 [.int .i64 0, .bool false, .int .i64 0, .int .i64 0, .int .i64 0, .int .u8 0, .int .u8 0, .int .u8 0, .int .u8 0, .int .u8 0, .int .u8 0, .int .u8 0, .int .u8 0, .string ⟨#[]⟩] 41)⟩) (.inr fun _ _ => ⟨_, Take.eq (A := cel b2 [.int .i64 0, .bool false, .int .i64 0, .int .i64 0, .int .i64 0, .int .u8 0, .int .u8 0, .int .u8 0, .int .u8 0, .int .u8 0, .int .u8 0, .int .u8 0, .int .u8 0, .string ⟨#[]⟩] 41)⟩) (fun _ _ => ?_)
      refine R_done (by kernel_rfl) ?_
      refine K_then ?_
      refine J_seq ?_
      refine J_seq ?_
      refine J_region ?_
      refine L_v (opv_move rfl) rfl ?_
      refine L_v (opv_move rfl) rfl ?_
      refine L_gon rfl rfl rfl ?_
      first
        | refine L_v (opv_fieldAddr0 rfl) rfl ?_
        | refine L_v (opv_fieldAddr rfl) rfl ?_
      refine L_gon rfl rfl rfl ?_
      refine L_v (opv_loadS rfl) rfl ?_
      refine L_gon rfl rfl rfl ?_
      refine L_v (opv_buildA (pl := []) rfl rfl) rfl ?_
      refine L_gon rfl rfl rfl ?_
      refine L_v ((opv_eqlF rfl rfl (by simp [Shape, CK.sh]) (by simp [Shape, CK.sh])).bool_t rfl) rfl ?_
      first
        | refine L_v (opv_pick_tt rfl rfl) rfl ?_
        | refine L_v (opv_pick_ff rfl rfl) rfl ?_
        | refine L_v (opv_pick rfl rfl rfl) rfl ?_
      refine L_v (opv_move rfl) rfl ?_
      refine L_gon rfl rfl rfl ?_
      first
        | refine L_v (opv_fieldAddr0 rfl) rfl ?_
        | refine L_v (opv_fieldAddr rfl) rfl ?_
      refine L_gon rfl rfl rfl ?_
      refine L_v (opv_loadS rfl) rfl ?_
      refine L_gon rfl rfl rfl ?_
      refine L_v (opv_buildA (pl := []) rfl rfl) rfl ?_
      refine L_gon rfl rfl rfl ?_
      refine L_v ((opv_eqlF rfl rfl (by simp [Shape, CK.sh]) (by simp [Shape, CK.sh])).bool_t rfl) rfl ?_
      first
        | refine L_v (opv_pick_tt rfl rfl) rfl ?_
        | refine L_v (opv_pick_ff rfl rfl) rfl ?_
        | refine L_v (opv_pick rfl rfl rfl) rfl ?_
      refine L_nil ?_
      refine K_then ?_
      refine J_cond_true rfl ?_
      refine J_seq ?_
      refine J_region ?_
      first
        | refine L_v (opv_fieldAddr0 rfl) rfl ?_
        | refine L_v (opv_fieldAddr rfl) rfl ?_
      refine L_x rfl (opx_store rfl rfl rfl (by simp [Value.oneCell'])) (fun _ _ => ?_)
      refine L_nil ?_
      refine K_then ?_
      refine J_region ?_
      first
        | refine L_v (opv_fieldAddr0 rfl) rfl ?_
        | refine L_v (opv_fieldAddr rfl) rfl ?_
      refine L_x rfl (opx_store rfl rfl rfl (by simp [Value.oneCell'])) (fun _ _ => ?_)
      refine L_nil ?_
      refine K_then ?_
      refine J_seq ?_
      refine J_region ?_
      refine L_v (opv_loadS rfl) rfl ?_
      refine L_x rfl (opx_store rfl rfl rfl (by simp [Value.oneCell'])) (fun _ _ => ?_)
      refine L_nil ?_
      refine K_then ?_
      refine J_ret ?_
      exact K_ret1c (Q := fun _ _ _ => True) rfl rfl rfl () trivial rfl Ent.take
    · refine ⟨_, _, _, _, _, rfl, rfl, (opx_alloc rfl), fun b5 _ => ⟨⟨_, Take.eq (A := cel b2 [.int .i64 0, .bool false, .int .i64 0, .int .i64 0, .int .i64 0, .int .u8 0, .int .u8 0, .int .u8 0, .int .u8 0, .int .u8 0, .int .u8 0, .int .u8 0, .int .u8 0, .string ⟨#[]⟩] 41)⟩, .inr ⟨_, Take.eq (A := cel b2 [.int .i64 0, .bool false, .int .i64 0, .int .i64 0, .int .i64 0, .int .u8 0, .int .u8 0, .int .u8 0, .int .u8 0, .int .u8 0, .int .u8 0, .int .u8 0, .int .u8 0, .string ⟨#[]⟩] 41)⟩, ?_⟩⟩
      refine R_only 15 rfl rfl (by kernel_rfl) (opx_call0 (ip05_spec 0 0 0 0 (by decide)) rfl rfl rfl) (fun _ _ => ⟨_, Take.eq (A := cel b2 [.int .i64 0, .bool false, .int .i64 0, .int .i64 0, .int .i64 0, .int .u8 0, .int .u8 0, .int .u8 0, .int .u8 0, .int .u8 0, .int .u8 0, .int .u8 0, .int .u8 0, .string ⟨#[]⟩] 41)⟩) (.inr fun _ _ => ⟨_, Take.eq (A := cel b2 [.int .i64 0, .bool false, .int .i64 0, .int .i64 0, .int .i64 0, .int .u8 0, .int .u8 0, .int .u8 0, .int .u8 0, .int .u8 0, .int .u8 0, .int .u8 0, .int .u8 0, .string ⟨#[]⟩] 41)⟩) (fun _ _ => ?_)
      refine Rg_emp ?_
      refine R_pure 18 rfl (by kernel_rfl) (by kernel_rfl) (by kernel_rfl) (by kernel_rfl) (.inr ⟨_, Take.eq (A := cel b2 [.int .i64 0, .bool false, .int .i64 0, .int .i64 0, .int .i64 0, .int .u8 0, .int .u8 0, .int .u8 0, .int .u8 0, .int .u8 0, .int .u8 0, .int .u8 0, .int .u8 0, .string ⟨#[]⟩] 41)⟩) (opv_build rfl) rfl ?_
      refine R_only 20 rfl rfl (by kernel_rfl) (opx_store rfl rfl rfl (by simp [Value.oneCell'])) (fun _ _ => ⟨_, Take.eq (A := cel b2 [.int .i64 0, .bool false, .int .i64 0, .int .i64 0, .int .i64 0, .int .u8 0, .int .u8 0, .int .u8 0, .int .u8 0, .int .u8 0, .int .u8 0, .int .u8 0, .int .u8 0, .string ⟨#[]⟩] 41)⟩) (.inr fun _ _ => ⟨_, Take.eq (A := cel b2 [.int .i64 0, .bool false, .int .i64 0, .int .i64 0, .int .i64 0, .int .u8 0, .int .u8 0, .int .u8 0, .int .u8 0, .int .u8 0, .int .u8 0, .int .u8 0, .int .u8 0, .string ⟨#[]⟩] 41)⟩) (fun _ _ => ?_)
      refine R_done (by kernel_rfl) ?_
      refine K_then ?_
      refine J_seq ?_
      refine J_seq ?_
      refine J_region ?_
      refine L_v (opv_move rfl) rfl ?_
      refine L_v (opv_move rfl) rfl ?_
      refine L_gon rfl rfl rfl ?_
      first
        | refine L_v (opv_fieldAddr0 rfl) rfl ?_
        | refine L_v (opv_fieldAddr rfl) rfl ?_
      refine L_gon rfl rfl rfl ?_
      refine L_v (opv_loadS rfl) rfl ?_
      refine L_gon rfl rfl rfl ?_
      refine L_v (opv_buildA (pl := []) rfl rfl) rfl ?_
      refine L_gon rfl rfl rfl ?_
      refine L_v ((opv_eqlF rfl rfl (by simp [Shape, CK.sh]) (by simp [Shape, CK.sh])).bool_t rfl) rfl ?_
      first
        | refine L_v (opv_pick_tt rfl rfl) rfl ?_
        | refine L_v (opv_pick_ff rfl rfl) rfl ?_
        | refine L_v (opv_pick rfl rfl rfl) rfl ?_
      refine L_v (opv_move rfl) rfl ?_
      refine L_gon rfl rfl rfl ?_
      first
        | refine L_v (opv_fieldAddr0 rfl) rfl ?_
        | refine L_v (opv_fieldAddr rfl) rfl ?_
      refine L_gon rfl rfl rfl ?_
      refine L_v (opv_loadS rfl) rfl ?_
      refine L_gon rfl rfl rfl ?_
      refine L_v (opv_buildA (pl := []) rfl rfl) rfl ?_
      refine L_gon rfl rfl rfl ?_
      refine L_v ((opv_eqlF rfl rfl (by simp [Shape, CK.sh]) (by simp [Shape, CK.sh])).bool_t rfl) rfl ?_
      first
        | refine L_v (opv_pick_tt rfl rfl) rfl ?_
        | refine L_v (opv_pick_ff rfl rfl) rfl ?_
        | refine L_v (opv_pick rfl rfl rfl) rfl ?_
      refine L_nil ?_
      refine K_then ?_
      refine J_cond_true rfl ?_
      refine J_seq ?_
      refine J_region ?_
      first
        | refine L_v (opv_fieldAddr0 rfl) rfl ?_
        | refine L_v (opv_fieldAddr rfl) rfl ?_
      refine L_x rfl (opx_store rfl rfl rfl (by simp [Value.oneCell'])) (fun _ _ => ?_)
      refine L_nil ?_
      refine K_then ?_
      refine J_region ?_
      first
        | refine L_v (opv_fieldAddr0 rfl) rfl ?_
        | refine L_v (opv_fieldAddr rfl) rfl ?_
      refine L_x rfl (opx_store rfl rfl rfl (by simp [Value.oneCell'])) (fun _ _ => ?_)
      refine L_nil ?_
      refine K_then ?_
      refine J_seq ?_
      refine J_region ?_
      refine L_v (opv_loadS rfl) rfl ?_
      refine L_x rfl (opx_store rfl rfl rfl (by simp [Value.oneCell'])) (fun _ _ => ?_)
      refine L_nil ?_
      refine K_then ?_
      refine J_ret ?_
      exact K_ret1c (Q := fun _ _ _ => True) rfl rfl rfl () trivial rfl Ent.take
  · refine ⟨_, _, _, _, _, rfl, rfl, (opx_alloc rfl), fun b5 _ => ⟨⟨_, Take.eq (A := cel b2 [.int .i64 0, .bool false, .int .i64 0, .int .i64 0, .int .i64 0, .int .u8 0, .int .u8 0, .int .u8 0, .int .u8 0, .int .u8 0, .int .u8 0, .int .u8 0, .int .u8 0, .string ⟨#[]⟩] 41)⟩, .inr ⟨_, Take.eq (A := cel b2 [.int .i64 0, .bool false, .int .i64 0, .int .i64 0, .int .i64 0, .int .u8 0, .int .u8 0, .int .u8 0, .int .u8 0, .int .u8 0, .int .u8 0, .int .u8 0, .int .u8 0, .string ⟨#[]⟩] 41)⟩, ?_⟩⟩
    refine R_only 12 rfl rfl (by kernel_rfl) (opx_call0 (ip05_spec 0 0 0 0 (by decide)) rfl rfl rfl) (fun _ _ => ⟨_, Take.eq (A := cel b2 [.int .i64 0, .bool false, .int .i64 0, .int .i64 0, .int .i64 0, .int .u8 0, .int .u8 0, .int .u8 0, .int .u8 0, .int .u8 0, .int .u8 0, .int .u8 0, .int .u8 0, .string ⟨#[]⟩] 41)⟩) (.inr fun _ _ => ⟨_, Take.eq (A := cel b2 [.int .i64 0, .bool false, .int .i64 0, .int .i64 0, .int .i64 0, .int .u8 0, .int .u8 0, .int .u8 0, .int .u8 0, .int .u8 0, .int .u8 0, .int .u8 0, .int .u8 0, .string ⟨#[]⟩] 41)⟩) (fun _ _ => ?_)
    refine Rg_emp ?_
    refine R_only 15 rfl rfl (by kernel_rfl) (opx_call0 (ip05_spec 0 0 0 0 (by decide)) rfl rfl rfl) (fun _ _ => ⟨_, Take.eq (A := cel b2 [.int .i64 0, .bool false, .int .i64 0, .int .i64 0, .int .i64 0, .int .u8 0, .int .u8 0, .int .u8 0, .int .u8 0, .int .u8 0, .int .u8 0, .int .u8 0, .int .u8 0, .string ⟨#[]⟩] 41)⟩) (.inr fun _ _ => ⟨_, Take.eq (A := cel b2 [.int .i64 0, .bool false, .int .i64 0, .int .i64 0, .int .i64 0, .int .u8 0, .int .u8 0, .int .u8 0, .int .u8 0, .int .u8 0, .int .u8 0, .int .u8 0, .int .u8 0, .string ⟨#[]⟩] 41)⟩) (fun _ _ => ?_)
    refine Rg_emp ?_
    refine R_pure 18 rfl (by kernel_rfl) (by kernel_rfl) (by kernel_rfl) (by kernel_rfl) (.inr ⟨_, Take.eq (A := cel b2 [.int .i64 0, .bool false, .int .i64 0, .int .i64 0, .int .i64 0, .int .u8 0, .int .u8 0, .int .u8 0, .int .u8 0, .int .u8 0, .int .u8 0, .int .u8 0, .int .u8 0, .string ⟨#[]⟩] 41)⟩) (opv_build rfl) rfl ?_
    refine R_only 20 rfl rfl (by kernel_rfl) (opx_store rfl rfl rfl (by simp [Value.oneCell'])) (fun _ _ => ⟨_, Take.eq (A := cel b2 [.int .i64 0, .bool false, .int .i64 0, .int .i64 0, .int .i64 0, .int .u8 0, .int .u8 0, .int .u8 0, .int .u8 0, .int .u8 0, .int .u8 0, .int .u8 0, .int .u8 0, .string ⟨#[]⟩] 41)⟩) (.inr fun _ _ => ⟨_, Take.eq (A := cel b2 [.int .i64 0, .bool false, .int .i64 0, .int .i64 0, .int .i64 0, .int .u8 0, .int .u8 0, .int .u8 0, .int .u8 0, .int .u8 0, .int .u8 0, .int .u8 0, .int .u8 0, .string ⟨#[]⟩] 41)⟩) (fun _ _ => ?_)
    refine R_done (by kernel_rfl) ?_
    refine K_then ?_
    refine J_seq ?_
    refine J_seq ?_
    refine J_region ?_
    refine L_v (opv_move rfl) rfl ?_
    refine L_v (opv_move rfl) rfl ?_
    refine L_gon rfl rfl rfl ?_
    first
      | refine L_v (opv_fieldAddr0 rfl) rfl ?_
      | refine L_v (opv_fieldAddr rfl) rfl ?_
    refine L_gon rfl rfl rfl ?_
    refine L_v (opv_loadS rfl) rfl ?_
    refine L_gon rfl rfl rfl ?_
    refine L_v (opv_buildA (pl := []) rfl rfl) rfl ?_
    refine L_gon rfl rfl rfl ?_
    refine L_v ((opv_eqlF rfl rfl (by simp [Shape, CK.sh]) (by simp [Shape, CK.sh])).bool_t rfl) rfl ?_
    first
      | refine L_v (opv_pick_tt rfl rfl) rfl ?_
      | refine L_v (opv_pick_ff rfl rfl) rfl ?_
      | refine L_v (opv_pick rfl rfl rfl) rfl ?_
    refine L_v (opv_move rfl) rfl ?_
    refine L_gon rfl rfl rfl ?_
    first
      | refine L_v (opv_fieldAddr0 rfl) rfl ?_
      | refine L_v (opv_fieldAddr rfl) rfl ?_
    refine L_gon rfl rfl rfl ?_
    refine L_v (opv_loadS rfl) rfl ?_
    refine L_gon rfl rfl rfl ?_
    refine L_v (opv_buildA (pl := []) rfl rfl) rfl ?_
    refine L_gon rfl rfl rfl ?_
    refine L_v ((opv_eqlF rfl rfl (by simp [Shape, CK.sh]) (by simp [Shape, CK.sh])).bool_t rfl) rfl ?_
    first
      | refine L_v (opv_pick_tt rfl rfl) rfl ?_
      | refine L_v (opv_pick_ff rfl rfl) rfl ?_
      | refine L_v (opv_pick rfl rfl rfl) rfl ?_
    refine L_nil ?_
    refine K_then ?_
    refine J_cond_true rfl ?_
    refine J_seq ?_
    refine J_region ?_
    first
      | refine L_v (opv_fieldAddr0 rfl) rfl ?_
      | refine L_v (opv_fieldAddr rfl) rfl ?_
    refine L_x rfl (opx_store rfl rfl rfl (by simp [Value.oneCell'])) (fun _ _ => ?_)
    refine L_nil ?_
    refine K_then ?_
    refine J_region ?_
    first
      | refine L_v (opv_fieldAddr0 rfl) rfl ?_
      | refine L_v (opv_fieldAddr rfl) rfl ?_
    refine L_x rfl (opx_store rfl rfl rfl (by simp [Value.oneCell'])) (fun _ _ => ?_)
    refine L_nil ?_
    refine K_then ?_
    refine J_seq ?_
    refine J_region ?_
    refine L_v (opv_loadS rfl) rfl ?_
    refine L_x rfl (opx_store rfl rfl rfl (by simp [Value.oneCell'])) (fun _ _ => ?_)
    refine L_nil ?_
    refine K_then ?_
    refine J_ret ?_
    exact K_ret1c (Q := fun _ _ _ => True) rfl rfl rfl () trivial rfl Ent.take

end Go.Proofs.Ytkkomlcjcgdbeaa
