/- Contracts of frag.Split and of its reference, each proved by a walk over its code; they are used by the texts that import this one. -/
import Derived.Test.YtjpbpfihacfndaaFa
import Derived.Test.YtjpbpfihacfndaaS2
import Derived.Test.YtjpbpfihacfndaaH
namespace Go.Proofs.Ytjpbpfihacfndaa
open Go.SLA
set_option maxRecDepth 100000
set_option linter.unusedVariables false
set_option linter.unusedSimpArgs false
attribute [local irreducible] J L K QL Rg FSpec OpV OpX Rd Back
structure Pk where
  id : Int
  more : Bool
  off : Int
  ttl : Int
  proto : Int
  s0 : Int
  s1 : Int
  s2 : Int
  s3 : Int
  d0 : Int
  d1 : Int
  d2 : Int
  d3 : Int
  data : ByteArray
def encPk (x : Pk) : List Value := [.int .i64 x.id, .bool x.more, .int .i64 x.off, .int .i64 x.ttl, .int .i64 x.proto, .int .u8 x.s0, .int .u8 x.s1, .int .u8 x.s2, .int .u8 x.s3, .int .u8 x.d0, .int .u8 x.d1, .int .u8 x.d2, .int .u8 x.d3, .string x.data]
def okPk (x : Pk) : Prop := (Lit.int .i64 x.id).wf = true ∧ (Lit.int .i64 x.off).wf = true ∧ (Lit.int .i64 x.ttl).wf = true ∧ (Lit.int .i64 x.proto).wf = true ∧ (Lit.int .u8 x.s0).wf = true ∧ (Lit.int .u8 x.s1).wf = true ∧ (Lit.int .u8 x.s2).wf = true ∧ (Lit.int .u8 x.s3).wf = true ∧ (Lit.int .u8 x.d0).wf = true ∧ (Lit.int .u8 x.d1).wf = true ∧ (Lit.int .u8 x.d2).wf = true ∧ (Lit.int .u8 x.d3).wf = true ∧ x.data.size ≤ maxLen
abbrev ksPk : List CK := [.int .i64, .bool, .int .i64, .int .i64, .int .i64, .int .u8, .int .u8, .int .u8, .int .u8, .int .u8, .int .u8, .int .u8, .int .u8, .str]
theorem encPk_len (x : Pk) : (encPk x).length = 14 := rfl
theorem decPk (cs : List Value) (h : Kinds ksPk cs) : ∃ x, cs = encPk x ∧ okPk x := by
  obtain ⟨hl, hk⟩ := h
  obtain ⟨v0, g0, x0, rfl, w0⟩ := hk 0 _ rfl
  obtain ⟨v1, g1, x1, rfl⟩ := hk 1 _ rfl
  obtain ⟨v2, g2, x2, rfl, w2⟩ := hk 2 _ rfl
  obtain ⟨v3, g3, x3, rfl, w3⟩ := hk 3 _ rfl
  obtain ⟨v4, g4, x4, rfl, w4⟩ := hk 4 _ rfl
  obtain ⟨v5, g5, x5, rfl, w5⟩ := hk 5 _ rfl
  obtain ⟨v6, g6, x6, rfl, w6⟩ := hk 6 _ rfl
  obtain ⟨v7, g7, x7, rfl, w7⟩ := hk 7 _ rfl
  obtain ⟨v8, g8, x8, rfl, w8⟩ := hk 8 _ rfl
  obtain ⟨v9, g9, x9, rfl, w9⟩ := hk 9 _ rfl
  obtain ⟨v10, g10, x10, rfl, w10⟩ := hk 10 _ rfl
  obtain ⟨v11, g11, x11, rfl, w11⟩ := hk 11 _ rfl
  obtain ⟨v12, g12, x12, rfl, w12⟩ := hk 12 _ rfl
  obtain ⟨v13, g13, x13, rfl, w13⟩ := hk 13 _ rfl
  match cs, hl with
  | [c0, c1, c2, c3, c4, c5, c6, c7, c8, c9, c10, c11, c12, c13], _ =>
    simp only [List.getElem?_cons_zero, List.getElem?_cons_succ, Option.some.injEq] at g0 g1 g2 g3 g4 g5 g6 g7 g8 g9 g10 g11 g12 g13
    exact ⟨⟨x0, x1, x2, x3, x4, x5, x6, x7, x8, x9, x10, x11, x12, x13⟩, by simp only [encPk, *], ⟨w0, w2, w3, w4, w5, w6, w7, w8, w9, w10, w11, w12, w13⟩⟩


def encR (p : Pk) : List Value := [.int .i64 p.id, .bool p.more, .int .i64 p.off, .int .i64 p.ttl, .int .i64 p.proto, .string (bytesL [p.s0, p.s1, p.s2, p.s3]), .string (bytesL [p.d0, p.d1, p.d2, p.d3]), .string p.data]
theorem encR_len (p : Pk) : (encR p).length = 8 := rfl
theorem encPk_one (p : Pk) : ∀ u ∈ encPk p, u.oneCell' = true := by
  intro u hu
  simp only [encPk, List.mem_cons, List.not_mem_nil, or_false] at hu
  rcases hu with rfl | rfl | rfl | rfl | rfl | rfl | rfl | rfl | rfl | rfl | rfl | rfl | rfl | rfl <;> rfl
theorem encR_one (p : Pk) : ∀ u ∈ encR p, u.oneCell' = true := by
  intro u hu
  simp only [encR, List.mem_cons, List.not_mem_nil, or_false] at hu
  rcases hu with rfl | rfl | rfl | rfl | rfl | rfl | rfl | rfl <;> rfl
/-- The part of a packet from a on, up to e. -/
def prt (p : Pk) (a e : Nat) : Pk := ⟨p.id, decide (e < p.data.size), ((a / 8 : Nat) : Int), p.ttl, p.proto, p.s0, p.s1, p.s2, p.s3, p.d0, p.d1, p.d2, p.d3, p.data.extract a e⟩
/-- The parts of a packet from a on, of r bytes each but the last one, which has w at most. -/
def splitL (p : Pk) (w r : Nat) (a : Nat) : List Pk := if h : a + w < p.data.size ∧ 0 < r then prt p a (a + r) :: splitL p w r (a + r) else [prt p a p.data.size]
termination_by p.data.size - a
theorem splitL_a {p : Pk} {w r a : Nat} (h : a + w < p.data.size) (hr : 0 < r) : splitL p w r a = prt p a (a + r) :: splitL p w r (a + r) := by rw [splitL, dif_pos ⟨h, hr⟩]
theorem splitL_b {p : Pk} {w r a : Nat} (h : ¬ a + w < p.data.size) : splitL p w r a = [prt p a p.data.size] := by rw [splitL, dif_neg (fun n => h n.1)]
/-- Why a packet becomes no parts; 0: it does. -/
def codeS (p : Pk) (m : Int) : Int := if ¬ sizeB m then 1 else if p.more = true ∨ p.off ≠ 0 then 15 else if 65515 < p.data.size then 11 else 0
def parts (p : Pk) (m : Int) : List Pk := splitL p (m.toNat - 39) (roomN m.toNat) 0
theorem codeS_ok {p : Pk} {m : Int} (h : codeS p m = 0) : sizeB m ∧ p.more = false ∧ p.off = 0 ∧ p.data.size ≤ 65515 := by
  unfold codeS at h
  split at h
  · cases h
  · rename_i h1
    split at h
    · cases h
    · rename_i h2
      split at h
      · cases h
      · rename_i h3
        refine ⟨Classical.not_not.1 h1, ?_, ?_, by omega⟩
        · cases hm : p.more with
          | false => rfl
          | true => exact absurd (.inl hm) h2
        · exact Classical.not_not.1 fun n => h2 (.inr n)
attribute [local irreducible] roomN partsN cntN rmN

theorem part_spec (p : Pk) (a e : Nat) (h : a ≤ e) (he : e ≤ p.data.size) (hd : p.data.size ≤ 1000000000) : FSpec Try.prog 49 #[.agg [.int .i64 p.id, .bool p.more, .int .i64 p.off, .int .i64 p.ttl, .int .i64 p.proto, .int .u8 p.s0, .int .u8 p.s1, .int .u8 p.s2, .int .u8 p.s3, .int .u8 p.d0, .int .u8 p.d1, .int .u8 p.d2, .int .u8 p.d3, .string p.data].toArray, .int .i64 (a : Nat), .int .i64 (e : Nat)] (emp) (fun _ : Unit => True) (fun _ => .agg (encPk (prt p a e)).toArray) (fun _ => emp) := by
  refine FSpec.enter' Try.func49 rfl Try.ntmps49 rfl fun σ F => ?_
  refine J_emp ?_
  refine J_seq ?_
  refine J_region ?_
  refine L_x rfl (opx_box (l := [.int .i64 p.id, .bool p.more, .int .i64 p.off, .int .i64 p.ttl, .int .i64 p.proto, .int .u8 p.s0, .int .u8 p.s1, .int .u8 p.s2, .int .u8 p.s3, .int .u8 p.d0, .int .u8 p.d1, .int .u8 p.d2, .int .u8 p.d3, .string p.data]) rfl rfl) (fun b3 _ => ?_)
  refine L_x rfl (opx_alloc rfl) (fun b6 _ => ?_)
  refine L_nil ?_
  refine K_then ?_
  refine J_seq ?_
  refine J_steps (emp) (cel b3 [.int .i64 p.id, .bool p.more, .int .i64 p.off, .int .i64 p.ttl, .int .i64 p.proto, .int .u8 p.s0, .int .u8 p.s1, .int .u8 p.s2, .int .u8 p.s3, .int .u8 p.d0, .int .u8 p.d1, .int .u8 p.d2, .int .u8 p.d3, .string p.data] 32) [13, 15, 17] Try.mixed ?_
  refine R_pure 0 rfl (by kernel_rfl) (by kernel_rfl) (by kernel_rfl) (by kernel_rfl) (.inr ⟨_, Take.eq (A := cel b3 [.int .i64 p.id, .bool p.more, .int .i64 p.off, .int .i64 p.ttl, .int .i64 p.proto, .int .u8 p.s0, .int .u8 p.s1, .int .u8 p.s2, .int .u8 p.s3, .int .u8 p.d0, .int .u8 p.d1, .int .u8 p.d2, .int .u8 p.d3, .string p.data] 32)⟩) (opv_move rfl) rfl ?_
  first
    | refine R_pure 1 rfl (by kernel_rfl) (by kernel_rfl) (by kernel_rfl) (by kernel_rfl) (.inr ⟨_, Take.eq (A := cel b3 [.int .i64 p.id, .bool p.more, .int .i64 p.off, .int .i64 p.ttl, .int .i64 p.proto, .int .u8 p.s0, .int .u8 p.s1, .int .u8 p.s2, .int .u8 p.s3, .int .u8 p.d0, .int .u8 p.d1, .int .u8 p.d2, .int .u8 p.d3, .string p.data] 32)⟩) (opv_fieldAddr0 rfl) rfl ?_
    | refine R_pure 1 rfl (by kernel_rfl) (by kernel_rfl) (by kernel_rfl) (by kernel_rfl) (.inr ⟨_, Take.eq (A := cel b3 [.int .i64 p.id, .bool p.more, .int .i64 p.off, .int .i64 p.ttl, .int .i64 p.proto, .int .u8 p.s0, .int .u8 p.s1, .int .u8 p.s2, .int .u8 p.s3, .int .u8 p.d0, .int .u8 p.d1, .int .u8 p.d2, .int .u8 p.d3, .string p.data] 32)⟩) (opv_fieldAddr rfl) rfl ?_
  refine R_take 2 rfl (by kernel_rfl) (by kernel_rfl) (by kernel_rfl) (by kernel_rfl) (by kernel_rfl) (opv_load rfl (Rd.look rfl)) rfl ?_
  first
    | refine R_pure 3 rfl (by kernel_rfl) (by kernel_rfl) (by kernel_rfl) (by kernel_rfl) (.inr ⟨_, Take.eq (A := cel b3 [.int .i64 p.id, .bool p.more, .int .i64 p.off, .int .i64 p.ttl, .int .i64 p.proto, .int .u8 p.s0, .int .u8 p.s1, .int .u8 p.s2, .int .u8 p.s3, .int .u8 p.d0, .int .u8 p.d1, .int .u8 p.d2, .int .u8 p.d3, .string p.data] 32)⟩) (opv_lenL rfl) rfl ?_
    | refine R_pure 3 rfl (by kernel_rfl) (by kernel_rfl) (by kernel_rfl) (by kernel_rfl) (.inr ⟨_, Take.eq (A := cel b3 [.int .i64 p.id, .bool p.more, .int .i64 p.off, .int .i64 p.ttl, .int .i64 p.proto, .int .u8 p.s0, .int .u8 p.s1, .int .u8 p.s2, .int .u8 p.s3, .int .u8 p.d0, .int .u8 p.d1, .int .u8 p.d2, .int .u8 p.d3, .string p.data] 32)⟩) (opv_lenS rfl) rfl ?_
  refine R_pure 4 rfl (by kernel_rfl) (by kernel_rfl) (by kernel_rfl) (by kernel_rfl) (.inr ⟨_, Take.eq (A := cel b3 [.int .i64 p.id, .bool p.more, .int .i64 p.off, .int .i64 p.ttl, .int .i64 p.proto, .int .u8 p.s0, .int .u8 p.s1, .int .u8 p.s2, .int .u8 p.s3, .int .u8 p.d0, .int .u8 p.d1, .int .u8 p.d2, .int .u8 p.d3, .string p.data] 32)⟩) ((opv_lss rfl rfl).as (v' := .bool (decide (e < p.data.size))) (congrArg Value.bool (decide_eq_decide.2 (by omega)))) rfl ?_
  refine R_pure 5 rfl (by kernel_rfl) (by kernel_rfl) (by kernel_rfl) (by kernel_rfl) (.inr ⟨_, Take.eq (A := cel b3 [.int .i64 p.id, .bool p.more, .int .i64 p.off, .int .i64 p.ttl, .int .i64 p.proto, .int .u8 p.s0, .int .u8 p.s1, .int .u8 p.s2, .int .u8 p.s3, .int .u8 p.d0, .int .u8 p.d1, .int .u8 p.d2, .int .u8 p.d3, .string p.data] 32)⟩) (opv_move rfl) rfl ?_
  refine R_pure 6 rfl (by kernel_rfl) (by kernel_rfl) (by kernel_rfl) (by kernel_rfl) (.inr ⟨_, Take.eq (A := cel b3 [.int .i64 p.id, .bool p.more, .int .i64 p.off, .int .i64 p.ttl, .int .i64 p.proto, .int .u8 p.s0, .int .u8 p.s1, .int .u8 p.s2, .int .u8 p.s3, .int .u8 p.d0, .int .u8 p.d1, .int .u8 p.d2, .int .u8 p.d3, .string p.data] 32)⟩) ((opv_quoP rfl rfl (by omega)).as (v' := .int .i64 ((a / 8 : Nat) : Int)) rfl) rfl ?_
  first
    | refine R_pure 7 rfl (by kernel_rfl) (by kernel_rfl) (by kernel_rfl) (by kernel_rfl) (.inr ⟨_, Take.eq (A := cel b3 [.int .i64 p.id, .bool p.more, .int .i64 p.off, .int .i64 p.ttl, .int .i64 p.proto, .int .u8 p.s0, .int .u8 p.s1, .int .u8 p.s2, .int .u8 p.s3, .int .u8 p.d0, .int .u8 p.d1, .int .u8 p.d2, .int .u8 p.d3, .string p.data] 32)⟩) (opv_fieldAddr0 rfl) rfl ?_
    | refine R_pure 7 rfl (by kernel_rfl) (by kernel_rfl) (by kernel_rfl) (by kernel_rfl) (.inr ⟨_, Take.eq (A := cel b3 [.int .i64 p.id, .bool p.more, .int .i64 p.off, .int .i64 p.ttl, .int .i64 p.proto, .int .u8 p.s0, .int .u8 p.s1, .int .u8 p.s2, .int .u8 p.s3, .int .u8 p.d0, .int .u8 p.d1, .int .u8 p.d2, .int .u8 p.d3, .string p.data] 32)⟩) (opv_fieldAddr rfl) rfl ?_
  refine R_take 8 rfl (by kernel_rfl) (by kernel_rfl) (by kernel_rfl) (by kernel_rfl) (by kernel_rfl) (opv_load rfl (Rd.look rfl)) rfl ?_
  refine R_pure 9 rfl (by kernel_rfl) (by kernel_rfl) (by kernel_rfl) (by kernel_rfl) (.inr ⟨_, Take.eq (A := cel b3 [.int .i64 p.id, .bool p.more, .int .i64 p.off, .int .i64 p.ttl, .int .i64 p.proto, .int .u8 p.s0, .int .u8 p.s1, .int .u8 p.s2, .int .u8 p.s3, .int .u8 p.d0, .int .u8 p.d1, .int .u8 p.d2, .int .u8 p.d3, .string p.data] 32)⟩) (opv_move rfl) rfl ?_
  refine R_pure 10 rfl (by kernel_rfl) (by kernel_rfl) (by kernel_rfl) (by kernel_rfl) (.inr ⟨_, Take.eq (A := cel b3 [.int .i64 p.id, .bool p.more, .int .i64 p.off, .int .i64 p.ttl, .int .i64 p.proto, .int .u8 p.s0, .int .u8 p.s1, .int .u8 p.s2, .int .u8 p.s3, .int .u8 p.d0, .int .u8 p.d1, .int .u8 p.d2, .int .u8 p.d3, .string p.data] 32)⟩) (opv_move rfl) rfl ?_
  refine R_pure 11 rfl (by kernel_rfl) (by kernel_rfl) (by kernel_rfl) (by kernel_rfl) (.inr ⟨_, Take.eq (A := cel b3 [.int .i64 p.id, .bool p.more, .int .i64 p.off, .int .i64 p.ttl, .int .i64 p.proto, .int .u8 p.s0, .int .u8 p.s1, .int .u8 p.s2, .int .u8 p.s3, .int .u8 p.d0, .int .u8 p.d1, .int .u8 p.d2, .int .u8 p.d3, .string p.data] 32)⟩) ((opv_sliceS rfl rfl rfl (by omega)).as (v' := .string (p.data.extract a e)) (by rw [Int.toNat_natCast, Int.toNat_natCast])) rfl ?_
  first
    | refine R_pure 12 rfl (by kernel_rfl) (by kernel_rfl) (by kernel_rfl) (by kernel_rfl) (.inr ⟨_, Take.eq (A := cel b3 [.int .i64 p.id, .bool p.more, .int .i64 p.off, .int .i64 p.ttl, .int .i64 p.proto, .int .u8 p.s0, .int .u8 p.s1, .int .u8 p.s2, .int .u8 p.s3, .int .u8 p.d0, .int .u8 p.d1, .int .u8 p.d2, .int .u8 p.d3, .string p.data] 32)⟩) (opv_fieldAddr0 rfl) rfl ?_
    | refine R_pure 12 rfl (by kernel_rfl) (by kernel_rfl) (by kernel_rfl) (by kernel_rfl) (.inr ⟨_, Take.eq (A := cel b3 [.int .i64 p.id, .bool p.more, .int .i64 p.off, .int .i64 p.ttl, .int .i64 p.proto, .int .u8 p.s0, .int .u8 p.s1, .int .u8 p.s2, .int .u8 p.s3, .int .u8 p.d0, .int .u8 p.d1, .int .u8 p.d2, .int .u8 p.d3, .string p.data] 32)⟩) (opv_fieldAddr rfl) rfl ?_
  refine R_only 13 rfl rfl (by kernel_rfl) (opx_store rfl rfl rfl (by simp [Value.oneCell'])) (fun _ _ => ⟨_, Take.eq (A := emp)⟩) (.inl (by kernel_rfl)) (fun _ _ => ?_)
  first
    | refine R_pure 14 rfl (by kernel_rfl) (by kernel_rfl) (by kernel_rfl) (by kernel_rfl) (.inl (by kernel_rfl)) (opv_fieldAddr0 rfl) rfl ?_
    | refine R_pure 14 rfl (by kernel_rfl) (by kernel_rfl) (by kernel_rfl) (by kernel_rfl) (.inl (by kernel_rfl)) (opv_fieldAddr rfl) rfl ?_
  refine R_only 15 rfl rfl (by kernel_rfl) (opx_store rfl rfl rfl (by simp [Value.oneCell'])) (fun _ _ => ⟨_, Take.eq (A := emp)⟩) (.inl (by kernel_rfl)) (fun _ _ => ?_)
  first
    | refine R_pure 16 rfl (by kernel_rfl) (by kernel_rfl) (by kernel_rfl) (by kernel_rfl) (.inl (by kernel_rfl)) (opv_fieldAddr0 rfl) rfl ?_
    | refine R_pure 16 rfl (by kernel_rfl) (by kernel_rfl) (by kernel_rfl) (by kernel_rfl) (.inl (by kernel_rfl)) (opv_fieldAddr rfl) rfl ?_
  refine R_only 17 rfl rfl (by kernel_rfl) (opx_store rfl rfl rfl (by simp [Value.oneCell'])) (fun _ _ => ⟨_, Take.eq (A := emp)⟩) (.inl (by kernel_rfl)) (fun _ _ => ?_)
  refine R_done (by kernel_rfl) ?_
  refine K_then ?_
  refine J_seq ?_
  refine J_region ?_
  refine L_v (opv_loadS rfl) rfl ?_
  refine L_x rfl (opx_store rfl rfl rfl (by simp [Value.oneCell'])) (fun _ _ => ?_)
  refine L_nil ?_
  refine K_then ?_
  refine J_ret ?_
  exact K_ret1c (Q := fun _ _ _ => True) rfl rfl rfl () trivial rfl Ent.take

theorem Split_size (p : Pk) (m : Int) (h : ¬ sizeB m) : FSpec Try.prog 24 #[.agg [.int .i64 p.id, .bool p.more, .int .i64 p.off, .int .i64 p.ttl, .int .i64 p.proto, .int .u8 p.s0, .int .u8 p.s1, .int .u8 p.s2, .int .u8 p.s3, .int .u8 p.d0, .int .u8 p.d1, .int .u8 p.d2, .int .u8 p.d3, .string p.data].toArray, .int .i64 m] (emp) (fun _ : Unit => True) (fun _ => .tuple #[.slice none 0 0, .int .i64 1]) (fun _ => emp) := by
  refine FSpec.enter' Try.func24 rfl Try.ntmps24 rfl fun σ F => ?_
  refine J_emp ?_
  refine J_seq ?_
  refine J_region ?_
  refine L_x rfl (opx_box (l := [.int .i64 p.id, .bool p.more, .int .i64 p.off, .int .i64 p.ttl, .int .i64 p.proto, .int .u8 p.s0, .int .u8 p.s1, .int .u8 p.s2, .int .u8 p.s3, .int .u8 p.d0, .int .u8 p.d1, .int .u8 p.d2, .int .u8 p.d3, .string p.data]) rfl rfl) (fun b2 _ => ?_)
  refine L_v (opv_assign rfl) rfl ?_
  refine L_v (opv_assign rfl) rfl ?_
  refine L_nil ?_
  refine K_then ?_
  refine J_scope_straight ?_
  refine J_seq ?_
  refine J_region ?_
  refine L_v (opv_move rfl) rfl ?_
  refine L_x rfl (opx_call0 (Room_bad m h) rfl rfl rfl) (fun _ _ => ?_)
  refine L_emp ?_
  refine L_v (opv_move rfl) rfl ?_
  refine L_v (opv_extract rfl rfl) rfl ?_
  refine L_v (opv_extract rfl rfl) rfl ?_
  refine L_v (opv_assign rfl) rfl ?_
  refine L_v (opv_assign rfl) rfl ?_
  refine L_nil ?_
  refine K_then ?_
  refine J_seq ?_
  refine J_block ?_
  refine J_seq ?_
  refine J_region ?_
  refine L_v (opv_move rfl) rfl ?_
  refine L_v ((opv_neq rfl rfl).bool_t (by decide)) rfl ?_
  refine L_v (opv_assign rfl) rfl ?_
  refine L_nil ?_
  refine K_then ?_
  refine J_cond_true rfl ?_
  refine J_seq ?_
  refine J_region ?_
  refine L_v (opv_move rfl) rfl ?_
  refine L_v (opv_assign rfl) rfl ?_
  refine L_v (opv_assign rfl) rfl ?_
  refine L_nil ?_
  refine K_then ?_
  refine J_ret ?_
  refine K_block_ret ?_
  refine K_then_ret ?_
  refine K_str_ret ?_
  exact K_ret2 rfl rfl rfl () trivial (rfl) Ent.take

theorem Split_field (p : Pk) (m : Nat) (h : 64 ≤ m ∧ m ≤ 1518) (hf : p.more = true ∨ p.off ≠ 0) : FSpec Try.prog 24 #[.agg [.int .i64 p.id, .bool p.more, .int .i64 p.off, .int .i64 p.ttl, .int .i64 p.proto, .int .u8 p.s0, .int .u8 p.s1, .int .u8 p.s2, .int .u8 p.s3, .int .u8 p.d0, .int .u8 p.d1, .int .u8 p.d2, .int .u8 p.d3, .string p.data].toArray, .int .i64 (m : Nat)] (emp) (fun _ : Unit => True) (fun _ => .tuple #[.slice none 0 0, .int .i64 15]) (fun _ => emp) := by
  refine FSpec.enter' Try.func24 rfl Try.ntmps24 rfl fun σ F => ?_
  refine J_emp ?_
  refine J_seq ?_
  refine J_region ?_
  refine L_x rfl (opx_box (l := [.int .i64 p.id, .bool p.more, .int .i64 p.off, .int .i64 p.ttl, .int .i64 p.proto, .int .u8 p.s0, .int .u8 p.s1, .int .u8 p.s2, .int .u8 p.s3, .int .u8 p.d0, .int .u8 p.d1, .int .u8 p.d2, .int .u8 p.d3, .string p.data]) rfl rfl) (fun b2 _ => ?_)
  refine L_v (opv_assign rfl) rfl ?_
  refine L_v (opv_assign rfl) rfl ?_
  refine L_nil ?_
  refine K_then ?_
  refine J_scope_straight ?_
  refine J_seq ?_
  refine J_region ?_
  refine L_v (opv_move rfl) rfl ?_
  refine L_x rfl (opx_call0 (Room_ok m h) rfl rfl rfl) (fun _ _ => ?_)
  refine L_emp ?_
  refine L_v (opv_move rfl) rfl ?_
  refine L_v (opv_extract rfl rfl) rfl ?_
  refine L_v (opv_extract rfl rfl) rfl ?_
  refine L_v (opv_assign rfl) rfl ?_
  refine L_v (opv_assign rfl) rfl ?_
  refine L_nil ?_
  refine K_then ?_
  refine J_seq ?_
  refine J_block ?_
  refine J_seq ?_
  refine J_region ?_
  refine L_v (opv_move rfl) rfl ?_
  refine L_v ((opv_neq rfl rfl).bool_f (by decide)) rfl ?_
  refine L_v (opv_assign rfl) rfl ?_
  refine L_nil ?_
  refine K_then ?_
  refine J_cond_false rfl ?_
  refine J_seq ?_
  refine J_region ?_
  first
    | refine L_v (opv_fieldAddr0 rfl) rfl ?_
    | refine L_v (opv_fieldAddr rfl) rfl ?_
  refine L_v ((opv_load rfl (Rd.look rfl)).as (v' := .bool (decide (p.more = true))) (by simp)) rfl ?_
  refine L_v (opv_move rfl) rfl ?_
  refine L_gf rfl rfl (fun h1 => ?_) (fun h1 => ?_) (fun _ h => by cases h; rfl)
  · first
      | refine L_v (opv_fieldAddr0 rfl) rfl ?_
      | refine L_v (opv_fieldAddr rfl) rfl ?_
    refine L_gf_on h1 rfl rfl ?_
    refine L_v (opv_load rfl (Rd.look rfl)) rfl ?_
    refine L_gf_on h1 rfl rfl ?_
    first
      | refine L_v (opv_neq rfl rfl) rfl ?_
      | refine L_v (opv_neqS rfl rfl) rfl ?_
      | refine L_v (opv_neqNil rfl rfl) rfl ?_
      | refine L_v (opv_neqB rfl rfl) rfl ?_
    refine L_v (opv_pick_f rfl h1 rfl) rfl ?_
    refine L_v (opv_assign rfl) rfl ?_
    refine L_nil ?_
    refine K_then ?_
    refine J_cond rfl (fun h2 => ?_) (fun h2 => by exfalso; rcases hf with hf | hf <;> contradiction)
    refine J_seq ?_
    refine J_region ?_
    refine L_v (opv_assign rfl) rfl ?_
    refine L_v (opv_assign rfl) rfl ?_
    refine L_nil ?_
    refine K_then ?_
    refine J_ret ?_
    refine K_block_ret ?_
    refine K_then_ret ?_
    refine K_str_ret ?_
    exact K_ret2 rfl rfl rfl () trivial (rfl) Ent.take
  · refine L_gf_off h1 rfl rfl ?_ (fun _ h => by cases h; rfl)
    refine L_gf_off h1 rfl rfl ?_ (fun _ h => by cases h; rfl)
    refine L_v (opv_pick_t rfl h1 rfl) rfl ?_
    refine L_v (opv_assign rfl) rfl ?_
    refine L_nil ?_
    refine K_then ?_
    refine J_cond_true rfl ?_
    refine J_seq ?_
    refine J_region ?_
    refine L_v (opv_assign rfl) rfl ?_
    refine L_v (opv_assign rfl) rfl ?_
    refine L_nil ?_
    refine K_then ?_
    refine J_ret ?_
    refine K_block_ret ?_
    refine K_then_ret ?_
    refine K_str_ret ?_
    exact K_ret2 rfl rfl rfl () trivial (rfl) Ent.take

theorem Split_long (p : Pk) (m : Nat) (h : 64 ≤ m ∧ m ≤ 1518) (hf : p.more = false) (ho : p.off = 0) (hl : 65515 < p.data.size) : FSpec Try.prog 24 #[.agg [.int .i64 p.id, .bool p.more, .int .i64 p.off, .int .i64 p.ttl, .int .i64 p.proto, .int .u8 p.s0, .int .u8 p.s1, .int .u8 p.s2, .int .u8 p.s3, .int .u8 p.d0, .int .u8 p.d1, .int .u8 p.d2, .int .u8 p.d3, .string p.data].toArray, .int .i64 (m : Nat)] (emp) (fun _ : Unit => True) (fun _ => .tuple #[.slice none 0 0, .int .i64 11]) (fun _ => emp) := by
  refine FSpec.enter' Try.func24 rfl Try.ntmps24 rfl fun σ F => ?_
  refine J_emp ?_
  refine J_seq ?_
  refine J_region ?_
  refine L_x rfl (opx_box (l := [.int .i64 p.id, .bool p.more, .int .i64 p.off, .int .i64 p.ttl, .int .i64 p.proto, .int .u8 p.s0, .int .u8 p.s1, .int .u8 p.s2, .int .u8 p.s3, .int .u8 p.d0, .int .u8 p.d1, .int .u8 p.d2, .int .u8 p.d3, .string p.data]) rfl rfl) (fun b2 _ => ?_)
  refine L_v (opv_assign rfl) rfl ?_
  refine L_v (opv_assign rfl) rfl ?_
  refine L_nil ?_
  refine K_then ?_
  refine J_scope_straight ?_
  refine J_seq ?_
  refine J_region ?_
  refine L_v (opv_move rfl) rfl ?_
  refine L_x rfl (opx_call0 (Room_ok m h) rfl rfl rfl) (fun _ _ => ?_)
  refine L_emp ?_
  refine L_v (opv_move rfl) rfl ?_
  refine L_v (opv_extract rfl rfl) rfl ?_
  refine L_v (opv_extract rfl rfl) rfl ?_
  refine L_v (opv_assign rfl) rfl ?_
  refine L_v (opv_assign rfl) rfl ?_
  refine L_nil ?_
  refine K_then ?_
  refine J_seq ?_
  refine J_block ?_
  refine J_seq ?_
  refine J_region ?_
  refine L_v (opv_move rfl) rfl ?_
  refine L_v ((opv_neq rfl rfl).bool_f (by decide)) rfl ?_
  refine L_v (opv_assign rfl) rfl ?_
  refine L_nil ?_
  refine K_then ?_
  refine J_cond_false rfl ?_
  refine J_seq ?_
  refine J_region ?_
  first
    | refine L_v (opv_fieldAddr0 rfl) rfl ?_
    | refine L_v (opv_fieldAddr rfl) rfl ?_
  refine L_v ((opv_load rfl (Rd.look rfl)).as (v' := .bool false) (by rw [hf])) rfl ?_
  refine L_v (opv_move rfl) rfl ?_
  refine L_gon rfl rfl rfl ?_
  first
    | refine L_v (opv_fieldAddr0 rfl) rfl ?_
    | refine L_v (opv_fieldAddr rfl) rfl ?_
  refine L_gon rfl rfl rfl ?_
  refine L_v (opv_load rfl (Rd.look rfl)) rfl ?_
  refine L_gon rfl rfl rfl ?_
  refine L_v ((opv_neq rfl rfl).bool_f (fun n => n ho)) rfl ?_
  first
    | refine L_v (opv_pick_tt rfl rfl) rfl ?_
    | refine L_v (opv_pick_ff rfl rfl) rfl ?_
    | refine L_v (opv_pick rfl rfl rfl) rfl ?_
  refine L_v (opv_assign rfl) rfl ?_
  refine L_nil ?_
  refine K_then ?_
  refine J_cond_false rfl ?_
  refine J_seq ?_
  refine J_region ?_
  first
    | refine L_v (opv_fieldAddr0 rfl) rfl ?_
    | refine L_v (opv_fieldAddr rfl) rfl ?_
  refine L_v (opv_load rfl (Rd.look rfl)) rfl ?_
  first
    | refine L_v (opv_lenL rfl) rfl ?_
    | refine L_v (opv_lenS rfl) rfl ?_
  refine L_v ((opv_gtr rfl rfl).bool_t (by omega)) rfl ?_
  refine L_v (opv_assign rfl) rfl ?_
  refine L_nil ?_
  refine K_then ?_
  refine J_cond_true rfl ?_
  refine J_seq ?_
  refine J_region ?_
  refine L_v (opv_assign rfl) rfl ?_
  refine L_v (opv_assign rfl) rfl ?_
  refine L_nil ?_
  refine K_then ?_
  refine J_ret ?_
  refine K_block_ret ?_
  refine K_then_ret ?_
  refine K_str_ret ?_
  exact K_ret2 rfl rfl rfl () trivial (rfl) Ent.take

theorem Split_ok (p : Pk) (m : Nat) (h : 64 ≤ m ∧ m ≤ 1518) (hf : p.more = false) (ho : p.off = 0) (hl : p.data.size ≤ 65515) : FSpec Try.prog 24 #[.agg [.int .i64 p.id, .bool p.more, .int .i64 p.off, .int .i64 p.ttl, .int .i64 p.proto, .int .u8 p.s0, .int .u8 p.s1, .int .u8 p.s2, .int .u8 p.s3, .int .u8 p.d0, .int .u8 p.d1, .int .u8 p.d2, .int .u8 p.d3, .string p.data].toArray, .int .i64 (m : Nat)] (emp) (fun r : Option Addr × Nat => True) (fun r => .tuple #[.slice r.1 (splitL p (m - 39) (roomN m) 0).length r.2, .int .i64 0]) (fun r => Own 32 14 (.slice r.1 (splitL p (m - 39) (roomN m) 0).length r.2) (splitL p (m - 39) (roomN m) 0).length ((splitL p (m - 39) (roomN m) 0).flatMap encPk)) := by
  have hr := roomN_ge h.1
  have h0l : ([] : List Pk).length = 0 := rfl
  refine FSpec.enter' Try.func24 rfl Try.ntmps24 rfl fun σ F => ?_
  refine J_emp ?_
  refine J_imp (sep (Own 32 14 (.slice none 0 0) ([] : List Pk).length (([] : List Pk).flatMap encPk)) (F)) (Ent.trans (Ent.of (emp_sep F).symm) ((Own.nil 32 14).frame F)) ?_
  refine J_seq ?_
  refine J_region ?_
  refine L_x rfl (opx_box (l := [.int .i64 p.id, .bool p.more, .int .i64 p.off, .int .i64 p.ttl, .int .i64 p.proto, .int .u8 p.s0, .int .u8 p.s1, .int .u8 p.s2, .int .u8 p.s3, .int .u8 p.d0, .int .u8 p.d1, .int .u8 p.d2, .int .u8 p.d3, .string p.data]) rfl rfl) (fun b2 _ => ?_)
  refine L_v (opv_assign rfl) rfl ?_
  refine L_v (opv_assign rfl) rfl ?_
  refine L_nil ?_
  refine K_then ?_
  refine J_scope (X := Nat × (Option Addr × Nat) × List Pk) 0 _ rfl (fun y => [(1, .int .i64 (m : Nat)), (2, .pointer (some (ad b2 0))), (6, .int .i64 (roomN m : Nat)), (8, .slice y.2.1.1 y.2.2.length y.2.1.2), (9, .int .i64 (y.1 : Nat))]) (fun y => (sep (cel b2 [.int .i64 p.id, .bool p.more, .int .i64 p.off, .int .i64 p.ttl, .int .i64 p.proto, .int .u8 p.s0, .int .u8 p.s1, .int .u8 p.s2, .int .u8 p.s3, .int .u8 p.d0, .int .u8 p.d1, .int .u8 p.d2, .int .u8 p.d3, .string p.data] 32) (sep (Own 32 14 (.slice y.2.1.1 y.2.2.length y.2.1.2) y.2.2.length (y.2.2.flatMap encPk)) (F)))) (fun y => y.1 ≤ p.data.size ∧ y.2.2.length ≤ y.1 ∧ y.2.2 ++ splitL p (m - 39) (roomN m) y.1 = splitL p (m - 39) (roomN m) 0) (fun y => p.data.size - y.1) ?_ (fun y hy => ?_)
  · refine J_seq ?_
    refine J_region ?_
    refine L_v (opv_move rfl) rfl ?_
    refine L_x rfl (opx_call0 (Room_ok m h) rfl rfl rfl) (fun _ _ => ?_)
    refine L_emp ?_
    refine L_v (opv_move rfl) rfl ?_
    refine L_v (opv_extract rfl rfl) rfl ?_
    refine L_v (opv_extract rfl rfl) rfl ?_
    refine L_v (opv_assign rfl) rfl ?_
    refine L_v (opv_assign rfl) rfl ?_
    refine L_nil ?_
    refine K_then ?_
    refine J_seq ?_
    refine J_block ?_
    refine J_seq ?_
    refine J_region ?_
    refine L_v (opv_move rfl) rfl ?_
    refine L_v ((opv_neq rfl rfl).bool_f (by decide)) rfl ?_
    refine L_v (opv_assign rfl) rfl ?_
    refine L_nil ?_
    refine K_then ?_
    refine J_cond_false rfl ?_
    refine J_seq ?_
    refine J_region ?_
    first
      | refine L_v (opv_fieldAddr0 rfl) rfl ?_
      | refine L_v (opv_fieldAddr rfl) rfl ?_
    refine L_v ((opv_load rfl (Rd.look rfl)).as (v' := .bool false) (by rw [hf])) rfl ?_
    refine L_v (opv_move rfl) rfl ?_
    refine L_gon rfl rfl rfl ?_
    first
      | refine L_v (opv_fieldAddr0 rfl) rfl ?_
      | refine L_v (opv_fieldAddr rfl) rfl ?_
    refine L_gon rfl rfl rfl ?_
    refine L_v (opv_load rfl (Rd.look rfl)) rfl ?_
    refine L_gon rfl rfl rfl ?_
    refine L_v ((opv_neq rfl rfl).bool_f (fun n => n ho)) rfl ?_
    first
      | refine L_v (opv_pick_tt rfl rfl) rfl ?_
      | refine L_v (opv_pick_ff rfl rfl) rfl ?_
      | refine L_v (opv_pick rfl rfl rfl) rfl ?_
    refine L_v (opv_assign rfl) rfl ?_
    refine L_nil ?_
    refine K_then ?_
    refine J_cond_false rfl ?_
    refine J_seq ?_
    refine J_region ?_
    first
      | refine L_v (opv_fieldAddr0 rfl) rfl ?_
      | refine L_v (opv_fieldAddr rfl) rfl ?_
    refine L_v (opv_load rfl (Rd.look rfl)) rfl ?_
    first
      | refine L_v (opv_lenL rfl) rfl ?_
      | refine L_v (opv_lenS rfl) rfl ?_
    refine L_v ((opv_gtr rfl rfl).bool_f (by omega)) rfl ?_
    refine L_v (opv_assign rfl) rfl ?_
    refine L_nil ?_
    refine K_then ?_
    refine J_cond_false rfl ?_
    refine J_skip ?_
    refine K_block ?_
    refine K_then ?_
    refine J_seq ?_
    refine J_region ?_
    refine L_v (opv_assign rfl) rfl ?_
    refine L_nil ?_
    refine K_then ?_
    refine J_seq ?_
    refine J_region ?_
    refine L_v (opv_assign rfl) rfl ?_
    refine L_nil ?_
    refine K_then ?_
    refine J_seq ?_
    refine J_label ?_
    refine K_then ?_
    refine J_seq ?_
    refine J_seq ?_
    refine J_quiet Try.mixed (by kernel_rfl) ?_
    first
      | refine Q_v (opv_fieldAddr0 rfl) rfl ?_
      | refine Q_v (opv_fieldAddr rfl) rfl ?_
    refine Q_v (opv_load rfl (Rd.look rfl)) rfl ?_
    first
      | refine Q_v (opv_lenL rfl) rfl ?_
      | refine Q_v (opv_lenS rfl) rfl ?_
    refine Q_v (opv_move rfl) rfl ?_
    first
      | refine Q_v (opv_sub64 rfl rfl (by omega)) rfl ?_
      | refine Q_v (opv_sub rfl rfl) rfl ?_
    refine Q_v (opv_move rfl) rfl ?_
    refine Q_call (whole_spec m (by omega)) rfl rfl (fun _ _ => rfl) (fun _ _ => Ent.refl _) rfl ?_
    refine Q_v (opv_gtr rfl rfl) rfl ?_
    refine QL_nil ?_
    refine K_then ?_
    refine J_cond rfl (fun h1 => ?_) (fun h1 => ?_)
    · refine J_seq ?_
      refine J_region ?_
      refine L_v (opv_move rfl) rfl ?_
      refine L_v (opv_loadS rfl) rfl ?_
      refine L_v (opv_move rfl) rfl ?_
      refine L_v (opv_move rfl) rfl ?_
      refine L_v (opv_move rfl) rfl ?_
      first
        | refine L_v ((opv_add64 rfl rfl (by omega)).as (v' := .int .i64 ((y.1 + roomN m : Nat) : Int)) (congrArg (Value.int .i64) (by omega))) rfl ?_
        | refine L_v ((opv_add64 rfl rfl (by omega)).as (v' := .int .i64 ((0 + roomN m : Nat) : Int)) (congrArg (Value.int .i64) (by omega))) rfl ?_
      refine L_x rfl (opx_call0 (part_spec p (0) (0 + roomN m) (by omega) (by omega) (by omega)) rfl rfl rfl) (fun _ _ => ?_)
      refine L_emp ?_
      refine L_x rfl (opx_buildSlice1 (m := 14) rfl rfl (by omega) (by omega) rfl) (fun b47 _ => ?_)
      refine L_x rfl (opx_append (m := 14) (B := 64) rfl rfl (Src.lit) rfl (by omega) rfl (encPk_one _) (by unfold maxLen; omega) (by omega) rfl) (fun y48 _ => ?_)
      refine L_v (opv_assign rfl) rfl ?_
      refine L_nil ?_
      refine K_then ?_
      refine J_seq ?_
      refine J_region ?_
      refine L_v (opv_move rfl) rfl ?_
      refine L_v (opv_move rfl) rfl ?_
      first
        | refine L_v ((opv_add64 rfl rfl (by omega)).as (v' := .int .i64 ((y.1 + roomN m : Nat) : Int)) (congrArg (Value.int .i64) (by omega))) rfl ?_
        | refine L_v ((opv_add64 rfl rfl (by omega)).as (v' := .int .i64 ((0 + roomN m : Nat) : Int)) (congrArg (Value.int .i64) (by omega))) rfl ?_
      refine L_v (opv_assign rfl) rfl ?_
      refine L_nil ?_
      refine K_then ?_
      refine J_goto ?_
      refine K_then_goto ?_
      rw [show ([] : List Pk).length + 1 = (([] : List Pk) ++ [prt p 0 (0 + roomN m)]).length by simp, show ([] : List Pk).flatMap encPk ++ encPk (prt p 0 (0 + roomN m)) = (([] : List Pk) ++ [prt p 0 (0 + roomN m)]).flatMap encPk by simp]
      have hs := splitL_a (p := p) (w := m - 39) (r := roomN m) (a := 0) (by omega) (by omega)
      exact K_goto1 (0 + roomN m, y48, ([] : List Pk) ++ [prt p 0 (0 + roomN m)]) ⟨by show 0 + roomN m ≤ _; omega, by show 1 ≤ 0 + roomN m; omega, by rw [hs]; rfl⟩ ⟨rfl, rfl, rfl, rfl, rfl, trivial⟩ Ent.take
    · refine J_skip ?_
      refine K_then ?_
      refine J_seq ?_
      refine J_region ?_
      refine L_v (opv_move rfl) rfl ?_
      refine L_v (opv_loadS rfl) rfl ?_
      refine L_v (opv_move rfl) rfl ?_
      first
        | refine L_v (opv_fieldAddr0 rfl) rfl ?_
        | refine L_v (opv_fieldAddr rfl) rfl ?_
      refine L_v (opv_load rfl (Rd.look rfl)) rfl ?_
      first
        | refine L_v (opv_lenL rfl) rfl ?_
        | refine L_v (opv_lenS rfl) rfl ?_
      refine L_x rfl (opx_call0 (part_spec p (0) p.data.size (by omega) (by omega) (by omega)) rfl rfl rfl) (fun _ _ => ?_)
      refine L_emp ?_
      refine L_x rfl (opx_buildSlice1 (m := 14) rfl rfl (by omega) (by omega) rfl) (fun b59 _ => ?_)
      refine L_x rfl (opx_append (m := 14) (B := 64) rfl rfl (Src.lit) rfl (by omega) rfl (encPk_one _) (by unfold maxLen; omega) (by omega) rfl) (fun y60 _ => ?_)
      refine L_v (opv_assign rfl) rfl ?_
      refine L_v (opv_assign rfl) rfl ?_
      refine L_nil ?_
      refine K_then ?_
      refine J_ret ?_
      refine K_jump_ret ?_
      rw [show ([] : List Pk).length + 1 = (([] : List Pk) ++ [prt p 0 (p.data.size)]).length by simp, show ([] : List Pk).flatMap encPk ++ encPk (prt p 0 (p.data.size)) = (([] : List Pk) ++ [prt p 0 (p.data.size)]).flatMap encPk by simp]
      have hb := splitL_b (p := p) (w := m - 39) (r := roomN m) (a := 0) (by omega)
      have hfin : ([] : List Pk) ++ [prt p 0 p.data.size] = splitL p (m - 39) (roomN m) 0 := by rw [hb]; rfl
      rw [hfin]
      exact K_ret2 rfl rfl rfl y60 trivial rfl Ent.take
  · obtain ⟨ha, hq, hy⟩ := hy
    refine J_seq ?_
    refine J_skip ?_
    refine K_then ?_
    refine J_seq ?_
    refine J_seq ?_
    refine J_quiet Try.mixed (by kernel_rfl) ?_
    first
      | refine Q_v (opv_fieldAddr0 rfl) rfl ?_
      | refine Q_v (opv_fieldAddr rfl) rfl ?_
    refine Q_v (opv_load rfl (Rd.look rfl)) rfl ?_
    first
      | refine Q_v (opv_lenL rfl) rfl ?_
      | refine Q_v (opv_lenS rfl) rfl ?_
    refine Q_v (opv_move rfl) rfl ?_
    first
      | refine Q_v (opv_sub64 rfl rfl (by omega)) rfl ?_
      | refine Q_v (opv_sub rfl rfl) rfl ?_
    refine Q_v (opv_move rfl) rfl ?_
    refine Q_call (whole_spec m (by omega)) rfl rfl (fun _ _ => rfl) (fun _ _ => Ent.refl _) rfl ?_
    refine Q_v (opv_gtr rfl rfl) rfl ?_
    refine QL_nil ?_
    refine K_then ?_
    refine J_cond rfl (fun h2 => ?_) (fun h2 => ?_)
    · refine J_seq ?_
      refine J_region ?_
      refine L_v (opv_move rfl) rfl ?_
      refine L_v (opv_loadS rfl) rfl ?_
      refine L_v (opv_move rfl) rfl ?_
      refine L_v (opv_move rfl) rfl ?_
      refine L_v (opv_move rfl) rfl ?_
      first
        | refine L_v ((opv_add64 rfl rfl (by omega)).as (v' := .int .i64 ((y.1 + roomN m : Nat) : Int)) (congrArg (Value.int .i64) (by omega))) rfl ?_
        | refine L_v ((opv_add64 rfl rfl (by omega)).as (v' := .int .i64 ((0 + roomN m : Nat) : Int)) (congrArg (Value.int .i64) (by omega))) rfl ?_
      refine L_x rfl (opx_call0 (part_spec p (y.1) (y.1 + roomN m) (by omega) (by omega) (by omega)) rfl rfl rfl) (fun _ _ => ?_)
      refine L_emp ?_
      refine L_x rfl (opx_buildSlice1 (m := 14) rfl rfl (by omega) (by omega) rfl) (fun b47 _ => ?_)
      refine L_x rfl (opx_append (m := 14) (B := 64) rfl rfl (Src.lit) rfl (by omega) rfl (encPk_one _) (by unfold maxLen; omega) (by omega) rfl) (fun y48 _ => ?_)
      refine L_v (opv_assign rfl) rfl ?_
      refine L_nil ?_
      refine K_then ?_
      refine J_seq ?_
      refine J_region ?_
      refine L_v (opv_move rfl) rfl ?_
      refine L_v (opv_move rfl) rfl ?_
      first
        | refine L_v ((opv_add64 rfl rfl (by omega)).as (v' := .int .i64 ((y.1 + roomN m : Nat) : Int)) (congrArg (Value.int .i64) (by omega))) rfl ?_
        | refine L_v ((opv_add64 rfl rfl (by omega)).as (v' := .int .i64 ((0 + roomN m : Nat) : Int)) (congrArg (Value.int .i64) (by omega))) rfl ?_
      refine L_v (opv_assign rfl) rfl ?_
      refine L_nil ?_
      refine K_then ?_
      refine J_goto ?_
      refine K_then_goto ?_
      rw [show y.2.2.length + 1 = (y.2.2 ++ [prt p y.1 (y.1 + roomN m)]).length by simp, show y.2.2.flatMap encPk ++ encPk (prt p y.1 (y.1 + roomN m)) = (y.2.2 ++ [prt p y.1 (y.1 + roomN m)]).flatMap encPk by simp]
      have hs := splitL_a (p := p) (w := m - 39) (r := roomN m) (a := y.1) (by omega) (by omega)
      exact K_goto2 (y.1 + roomN m, y48, y.2.2 ++ [prt p y.1 (y.1 + roomN m)]) ⟨by show y.1 + roomN m ≤ _; omega, by show (y.2.2 ++ [_]).length ≤ y.1 + roomN m; rw [List.length_append]; simp only [List.length_cons, List.length_nil]; omega, by show (y.2.2 ++ [prt p y.1 (y.1 + roomN m)]) ++ splitL p (m - 39) (roomN m) (y.1 + roomN m) = _; rw [← hy, hs, List.append_assoc]; rfl⟩ (by show _ - (y.1 + roomN m) < _; omega) ⟨rfl, rfl, rfl, rfl, rfl, trivial⟩ Ent.take
    · refine J_skip ?_
      refine K_then ?_
      refine J_seq ?_
      refine J_region ?_
      refine L_v (opv_move rfl) rfl ?_
      refine L_v (opv_loadS rfl) rfl ?_
      refine L_v (opv_move rfl) rfl ?_
      first
        | refine L_v (opv_fieldAddr0 rfl) rfl ?_
        | refine L_v (opv_fieldAddr rfl) rfl ?_
      refine L_v (opv_load rfl (Rd.look rfl)) rfl ?_
      first
        | refine L_v (opv_lenL rfl) rfl ?_
        | refine L_v (opv_lenS rfl) rfl ?_
      refine L_x rfl (opx_call0 (part_spec p (y.1) p.data.size (by omega) (by omega) (by omega)) rfl rfl rfl) (fun _ _ => ?_)
      refine L_emp ?_
      refine L_x rfl (opx_buildSlice1 (m := 14) rfl rfl (by omega) (by omega) rfl) (fun b59 _ => ?_)
      refine L_x rfl (opx_append (m := 14) (B := 64) rfl rfl (Src.lit) rfl (by omega) rfl (encPk_one _) (by unfold maxLen; omega) (by omega) rfl) (fun y60 _ => ?_)
      refine L_v (opv_assign rfl) rfl ?_
      refine L_v (opv_assign rfl) rfl ?_
      refine L_nil ?_
      refine K_then ?_
      refine J_ret ?_
      refine K_jump_ret ?_
      rw [show y.2.2.length + 1 = (y.2.2 ++ [prt p y.1 (p.data.size)]).length by simp, show y.2.2.flatMap encPk ++ encPk (prt p y.1 (p.data.size)) = (y.2.2 ++ [prt p y.1 (p.data.size)]).flatMap encPk by simp]
      have hb := splitL_b (p := p) (w := m - 39) (r := roomN m) (a := y.1) (by omega)
      have hfin : y.2.2 ++ [prt p y.1 p.data.size] = splitL p (m - 39) (roomN m) 0 := by rw [← hy, hb]
      rw [hfin]
      exact K_ret2 rfl rfl rfl y60 trivial rfl Ent.take

theorem RSplit_size (p : Pk) (m : Int) (h : ¬ sizeB m) : FSpec Try.prog 25 #[.agg (encR p).toArray, .int .i64 m] (emp) (fun _ : Unit => True) (fun _ => .tuple #[.slice none 0 0, .int .i64 1]) (fun _ => emp) := by
  refine FSpec.enter' Try.func25 rfl Try.ntmps25 rfl fun σ F => ?_
  refine J_emp ?_
  refine J_seq ?_
  refine J_region ?_
  refine L_x rfl (opx_box (l := [.int .i64 p.id, .bool p.more, .int .i64 p.off, .int .i64 p.ttl, .int .i64 p.proto, .string (bytesL [p.s0, p.s1, p.s2, p.s3]), .string (bytesL [p.d0, p.d1, p.d2, p.d3]), .string p.data]) rfl rfl) (fun b2 _ => ?_)
  refine L_v (opv_assign rfl) rfl ?_
  refine L_v (opv_assign rfl) rfl ?_
  refine L_nil ?_
  refine K_then ?_
  refine J_seq ?_
  refine J_region ?_
  refine L_v (opv_move rfl) rfl ?_
  refine L_x rfl (opx_call0 (RRoom_bad m h) rfl rfl rfl) (fun _ _ => ?_)
  refine L_emp ?_
  refine L_v (opv_move rfl) rfl ?_
  refine L_v (opv_extract rfl rfl) rfl ?_
  refine L_v (opv_extract rfl rfl) rfl ?_
  refine L_v (opv_assign rfl) rfl ?_
  refine L_v (opv_assign rfl) rfl ?_
  refine L_nil ?_
  refine K_then ?_
  refine J_seq ?_
  refine J_seq ?_
  refine J_region ?_
  refine L_v (opv_move rfl) rfl ?_
  refine L_v ((opv_neq rfl rfl).bool_t (by decide)) rfl ?_
  refine L_nil ?_
  refine K_then ?_
  refine J_cond_true rfl ?_
  refine J_seq ?_
  refine J_region ?_
  refine L_v (opv_move rfl) rfl ?_
  refine L_v (opv_assign rfl) rfl ?_
  refine L_v (opv_assign rfl) rfl ?_
  refine L_nil ?_
  refine K_then ?_
  refine J_ret ?_
  refine K_then_ret ?_
  exact K_ret2 rfl rfl rfl () trivial (rfl) Ent.take

theorem RSplit_field (p : Pk) (m : Nat) (h : 64 ≤ m ∧ m ≤ 1518) (hf : p.more = true ∨ p.off ≠ 0) : FSpec Try.prog 25 #[.agg (encR p).toArray, .int .i64 (m : Nat)] (emp) (fun _ : Unit => True) (fun _ => .tuple #[.slice none 0 0, .int .i64 15]) (fun _ => emp) := by
  refine FSpec.enter' Try.func25 rfl Try.ntmps25 rfl fun σ F => ?_
  refine J_emp ?_
  refine J_seq ?_
  refine J_region ?_
  refine L_x rfl (opx_box (l := [.int .i64 p.id, .bool p.more, .int .i64 p.off, .int .i64 p.ttl, .int .i64 p.proto, .string (bytesL [p.s0, p.s1, p.s2, p.s3]), .string (bytesL [p.d0, p.d1, p.d2, p.d3]), .string p.data]) rfl rfl) (fun b2 _ => ?_)
  refine L_v (opv_assign rfl) rfl ?_
  refine L_v (opv_assign rfl) rfl ?_
  refine L_nil ?_
  refine K_then ?_
  refine J_seq ?_
  refine J_region ?_
  refine L_v (opv_move rfl) rfl ?_
  refine L_x rfl (opx_call0 (RRoom_ok m h) rfl rfl rfl) (fun _ _ => ?_)
  refine L_emp ?_
  refine L_v (opv_move rfl) rfl ?_
  refine L_v (opv_extract rfl rfl) rfl ?_
  refine L_v (opv_extract rfl rfl) rfl ?_
  refine L_v (opv_assign rfl) rfl ?_
  refine L_v (opv_assign rfl) rfl ?_
  refine L_nil ?_
  refine K_then ?_
  refine J_seq ?_
  refine J_seq ?_
  refine J_region ?_
  refine L_v (opv_move rfl) rfl ?_
  refine L_v ((opv_neq rfl rfl).bool_f (by decide)) rfl ?_
  refine L_nil ?_
  refine K_then ?_
  refine J_cond_false rfl ?_
  refine J_skip ?_
  refine K_then ?_
  refine J_seq ?_
  refine J_seq ?_
  refine J_region ?_
  first
    | refine L_v (opv_fieldAddr0 rfl) rfl ?_
    | refine L_v (opv_fieldAddr rfl) rfl ?_
  refine L_v ((opv_load rfl (Rd.look rfl)).as (v' := .bool (decide (p.more = true))) (by simp)) rfl ?_
  refine L_v (opv_move rfl) rfl ?_
  refine L_gf rfl rfl (fun h1 => ?_) (fun h1 => ?_) (fun _ h => by cases h; rfl)
  · first
      | refine L_v (opv_fieldAddr0 rfl) rfl ?_
      | refine L_v (opv_fieldAddr rfl) rfl ?_
    refine L_gf_on h1 rfl rfl ?_
    refine L_v (opv_load rfl (Rd.look rfl)) rfl ?_
    refine L_gf_on h1 rfl rfl ?_
    first
      | refine L_v (opv_neq rfl rfl) rfl ?_
      | refine L_v (opv_neqS rfl rfl) rfl ?_
      | refine L_v (opv_neqNil rfl rfl) rfl ?_
      | refine L_v (opv_neqB rfl rfl) rfl ?_
    refine L_v (opv_pick_f rfl h1 rfl) rfl ?_
    refine L_nil ?_
    refine K_then ?_
    refine J_cond rfl (fun h2 => ?_) (fun h2 => by exfalso; rcases hf with hf | hf <;> contradiction)
    refine J_seq ?_
    refine J_region ?_
    refine L_v (opv_assign rfl) rfl ?_
    refine L_v (opv_assign rfl) rfl ?_
    refine L_nil ?_
    refine K_then ?_
    refine J_ret ?_
    refine K_then_ret ?_
    exact K_ret2 rfl rfl rfl () trivial (rfl) Ent.take
  · refine L_gf_off h1 rfl rfl ?_ (fun _ h => by cases h; rfl)
    refine L_gf_off h1 rfl rfl ?_ (fun _ h => by cases h; rfl)
    refine L_v (opv_pick_t rfl h1 rfl) rfl ?_
    refine L_nil ?_
    refine K_then ?_
    refine J_cond_true rfl ?_
    refine J_seq ?_
    refine J_region ?_
    refine L_v (opv_assign rfl) rfl ?_
    refine L_v (opv_assign rfl) rfl ?_
    refine L_nil ?_
    refine K_then ?_
    refine J_ret ?_
    refine K_then_ret ?_
    exact K_ret2 rfl rfl rfl () trivial (rfl) Ent.take

theorem RSplit_long (p : Pk) (m : Nat) (h : 64 ≤ m ∧ m ≤ 1518) (hf : p.more = false) (ho : p.off = 0) (hl : 65515 < p.data.size) : FSpec Try.prog 25 #[.agg (encR p).toArray, .int .i64 (m : Nat)] (emp) (fun _ : Unit => True) (fun _ => .tuple #[.slice none 0 0, .int .i64 11]) (fun _ => emp) := by
  refine FSpec.enter' Try.func25 rfl Try.ntmps25 rfl fun σ F => ?_
  refine J_emp ?_
  refine J_seq ?_
  refine J_region ?_
  refine L_x rfl (opx_box (l := [.int .i64 p.id, .bool p.more, .int .i64 p.off, .int .i64 p.ttl, .int .i64 p.proto, .string (bytesL [p.s0, p.s1, p.s2, p.s3]), .string (bytesL [p.d0, p.d1, p.d2, p.d3]), .string p.data]) rfl rfl) (fun b2 _ => ?_)
  refine L_v (opv_assign rfl) rfl ?_
  refine L_v (opv_assign rfl) rfl ?_
  refine L_nil ?_
  refine K_then ?_
  refine J_seq ?_
  refine J_region ?_
  refine L_v (opv_move rfl) rfl ?_
  refine L_x rfl (opx_call0 (RRoom_ok m h) rfl rfl rfl) (fun _ _ => ?_)
  refine L_emp ?_
  refine L_v (opv_move rfl) rfl ?_
  refine L_v (opv_extract rfl rfl) rfl ?_
  refine L_v (opv_extract rfl rfl) rfl ?_
  refine L_v (opv_assign rfl) rfl ?_
  refine L_v (opv_assign rfl) rfl ?_
  refine L_nil ?_
  refine K_then ?_
  refine J_seq ?_
  refine J_seq ?_
  refine J_region ?_
  refine L_v (opv_move rfl) rfl ?_
  refine L_v ((opv_neq rfl rfl).bool_f (by decide)) rfl ?_
  refine L_nil ?_
  refine K_then ?_
  refine J_cond_false rfl ?_
  refine J_skip ?_
  refine K_then ?_
  refine J_seq ?_
  refine J_seq ?_
  refine J_region ?_
  first
    | refine L_v (opv_fieldAddr0 rfl) rfl ?_
    | refine L_v (opv_fieldAddr rfl) rfl ?_
  refine L_v ((opv_load rfl (Rd.look rfl)).as (v' := .bool false) (by rw [hf])) rfl ?_
  refine L_v (opv_move rfl) rfl ?_
  refine L_gon rfl rfl rfl ?_
  first
    | refine L_v (opv_fieldAddr0 rfl) rfl ?_
    | refine L_v (opv_fieldAddr rfl) rfl ?_
  refine L_gon rfl rfl rfl ?_
  refine L_v (opv_load rfl (Rd.look rfl)) rfl ?_
  refine L_gon rfl rfl rfl ?_
  refine L_v ((opv_neq rfl rfl).bool_f (fun n => n ho)) rfl ?_
  first
    | refine L_v (opv_pick_tt rfl rfl) rfl ?_
    | refine L_v (opv_pick_ff rfl rfl) rfl ?_
    | refine L_v (opv_pick rfl rfl rfl) rfl ?_
  refine L_nil ?_
  refine K_then ?_
  refine J_cond_false rfl ?_
  refine J_skip ?_
  refine K_then ?_
  refine J_seq ?_
  refine J_seq ?_
  refine J_region ?_
  first
    | refine L_v (opv_fieldAddr0 rfl) rfl ?_
    | refine L_v (opv_fieldAddr rfl) rfl ?_
  refine L_v (opv_load rfl (Rd.look rfl)) rfl ?_
  first
    | refine L_v (opv_lenL rfl) rfl ?_
    | refine L_v (opv_lenS rfl) rfl ?_
  refine L_v ((opv_gtr rfl rfl).bool_t (by omega)) rfl ?_
  refine L_nil ?_
  refine K_then ?_
  refine J_cond_true rfl ?_
  refine J_seq ?_
  refine J_region ?_
  refine L_v (opv_assign rfl) rfl ?_
  refine L_v (opv_assign rfl) rfl ?_
  refine L_nil ?_
  refine K_then ?_
  refine J_ret ?_
  refine K_then_ret ?_
  exact K_ret2 rfl rfl rfl () trivial (rfl) Ent.take

set_option maxHeartbeats 400000 in
theorem RSplit_ok (p : Pk) (m : Nat) (h : 64 ≤ m ∧ m ≤ 1518) (hf : p.more = false) (ho : p.off = 0) (hl : p.data.size ≤ 65515) : FSpec Try.prog 25 #[.agg (encR p).toArray, .int .i64 (m : Nat)] (emp) (fun r : Option Addr × Nat => True) (fun r => .tuple #[.slice r.1 (splitL p (m - 39) (roomN m) 0).length r.2, .int .i64 0]) (fun r => Own 36 8 (.slice r.1 (splitL p (m - 39) (roomN m) 0).length r.2) (splitL p (m - 39) (roomN m) 0).length ((splitL p (m - 39) (roomN m) 0).flatMap encR)) := by
  have hr := roomN_ge h.1
  refine FSpec.enter' Try.func25 rfl Try.ntmps25 rfl fun σ F => ?_
  refine J_emp ?_
  refine J_imp (sep (Own 36 8 (.slice none 0 0) ([] : List Pk).length (([] : List Pk).flatMap encR)) (F)) (Ent.trans (Ent.of (emp_sep F).symm) ((Own.nil 36 8).frame F)) ?_
  refine J_seq ?_
  refine J_region ?_
  refine L_x rfl (opx_box (l := [.int .i64 p.id, .bool p.more, .int .i64 p.off, .int .i64 p.ttl, .int .i64 p.proto, .string (bytesL [p.s0, p.s1, p.s2, p.s3]), .string (bytesL [p.d0, p.d1, p.d2, p.d3]), .string p.data]) rfl rfl) (fun b2 _ => ?_)
  refine L_v (opv_assign rfl) rfl ?_
  refine L_v (opv_assign rfl) rfl ?_
  refine L_nil ?_
  refine K_then ?_
  refine J_seq ?_
  refine J_region ?_
  refine L_v (opv_move rfl) rfl ?_
  refine L_x rfl (opx_call0 (RRoom_ok m h) rfl rfl rfl) (fun _ _ => ?_)
  refine L_emp ?_
  refine L_v (opv_move rfl) rfl ?_
  refine L_v (opv_extract rfl rfl) rfl ?_
  refine L_v (opv_extract rfl rfl) rfl ?_
  refine L_v (opv_assign rfl) rfl ?_
  refine L_v (opv_assign rfl) rfl ?_
  refine L_nil ?_
  refine K_then ?_
  refine J_seq ?_
  refine J_seq ?_
  refine J_region ?_
  refine L_v (opv_move rfl) rfl ?_
  refine L_v ((opv_neq rfl rfl).bool_f (by decide)) rfl ?_
  refine L_nil ?_
  refine K_then ?_
  refine J_cond_false rfl ?_
  refine J_skip ?_
  refine K_then ?_
  refine J_seq ?_
  refine J_seq ?_
  refine J_region ?_
  first
    | refine L_v (opv_fieldAddr0 rfl) rfl ?_
    | refine L_v (opv_fieldAddr rfl) rfl ?_
  refine L_v ((opv_load rfl (Rd.look rfl)).as (v' := .bool false) (by rw [hf])) rfl ?_
  refine L_v (opv_move rfl) rfl ?_
  refine L_gon rfl rfl rfl ?_
  first
    | refine L_v (opv_fieldAddr0 rfl) rfl ?_
    | refine L_v (opv_fieldAddr rfl) rfl ?_
  refine L_gon rfl rfl rfl ?_
  refine L_v (opv_load rfl (Rd.look rfl)) rfl ?_
  refine L_gon rfl rfl rfl ?_
  refine L_v ((opv_neq rfl rfl).bool_f (fun n => n ho)) rfl ?_
  first
    | refine L_v (opv_pick_tt rfl rfl) rfl ?_
    | refine L_v (opv_pick_ff rfl rfl) rfl ?_
    | refine L_v (opv_pick rfl rfl rfl) rfl ?_
  refine L_nil ?_
  refine K_then ?_
  refine J_cond_false rfl ?_
  refine J_skip ?_
  refine K_then ?_
  refine J_seq ?_
  refine J_seq ?_
  refine J_region ?_
  first
    | refine L_v (opv_fieldAddr0 rfl) rfl ?_
    | refine L_v (opv_fieldAddr rfl) rfl ?_
  refine L_v (opv_load rfl (Rd.look rfl)) rfl ?_
  first
    | refine L_v (opv_lenL rfl) rfl ?_
    | refine L_v (opv_lenS rfl) rfl ?_
  refine L_v ((opv_gtr rfl rfl).bool_f (by omega)) rfl ?_
  refine L_nil ?_
  refine K_then ?_
  refine J_cond_false rfl ?_
  refine J_skip ?_
  refine K_then ?_
  refine J_seq ?_
  refine J_region ?_
  refine L_v (opv_assign rfl) rfl ?_
  refine L_nil ?_
  refine K_then ?_
  refine J_seq ?_
  refine J_region ?_
  refine L_v (opv_assign rfl) rfl ?_
  refine L_nil ?_
  refine K_then ?_
  refine J_seq ?_
  refine J_block ?_
  refine J_loop (X := Nat × (Option Addr × Nat) × List Pk) (fun y => [(1, .int .i64 (m : Nat)), (2, .pointer (some (ad b2 0))), (6, .int .i64 (roomN m : Nat)), (8, .slice y.2.1.1 y.2.2.length y.2.1.2), (9, .int .i64 (y.1 : Nat))]) (fun y => (sep (cel b2 [.int .i64 p.id, .bool p.more, .int .i64 p.off, .int .i64 p.ttl, .int .i64 p.proto, .string (bytesL [p.s0, p.s1, p.s2, p.s3]), .string (bytesL [p.d0, p.d1, p.d2, p.d3]), .string p.data] 36) (sep (Own 36 8 (.slice y.2.1.1 y.2.2.length y.2.1.2) y.2.2.length (y.2.2.flatMap encR)) (F)))) (fun y => y.1 ≤ p.data.size ∧ y.2.2.length ≤ y.1 ∧ y.2.2 ++ splitL p (m - 39) (roomN m) y.1 = splitL p (m - 39) (roomN m) 0) (fun y => p.data.size - y.1) ((0, (none, 0), [])) ⟨Nat.zero_le _, Nat.le_refl _, rfl⟩ ⟨rfl, rfl, rfl, rfl, rfl, trivial⟩ (Ent.refl _) (fun y hy => ?_)
  obtain ⟨ha, hq, hy⟩ := hy
  refine J_seq ?_
  refine J_seq ?_
  refine J_region ?_
  first
    | refine L_v (opv_fieldAddr0 rfl) rfl ?_
    | refine L_v (opv_fieldAddr rfl) rfl ?_
  refine L_v (opv_load rfl (Rd.look rfl)) rfl ?_
  first
    | refine L_v (opv_lenL rfl) rfl ?_
    | refine L_v (opv_lenS rfl) rfl ?_
  refine L_v (opv_move rfl) rfl ?_
  first
    | refine L_v (opv_sub64 rfl rfl (by omega)) rfl ?_
    | refine L_v (opv_sub rfl rfl) rfl ?_
  refine L_v (opv_move rfl) rfl ?_
  first
    | refine L_v (opv_sub64 rfl rfl (by omega)) rfl ?_
    | refine L_v (opv_sub rfl rfl) rfl ?_
  refine L_v (opv_gtr rfl rfl) rfl ?_
  refine L_nil ?_
  refine K_then ?_
  refine J_cond rfl (fun h1 => ?_) (fun h1 => ?_)
  · refine J_skip ?_
    refine K_then ?_
    refine J_block ?_
    refine J_seq ?_
    refine J_region ?_
    refine L_v (opv_loadS rfl) rfl ?_
    refine L_x rfl (opx_alloc rfl) (fun b10 _ => ?_)
    refine L_x rfl (opx_store rfl rfl rfl (by simp [Value.oneCell'])) (fun _ _ => ?_)
    refine L_nil ?_
    refine K_then ?_
    refine J_seq ?_
    refine J_region ?_
    first
      | refine L_v (opv_fieldAddr0 rfl) rfl ?_
      | refine L_v (opv_fieldAddr rfl) rfl ?_
    refine L_x rfl (opx_store rfl rfl rfl (by simp [Value.oneCell'])) (fun _ _ => ?_)
    refine L_nil ?_
    refine K_then ?_
    refine J_seq ?_
    refine J_region ?_
    refine L_v (opv_move rfl) rfl ?_
    refine L_v ((opv_quoP rfl rfl (by omega)).as (v' := .int .i64 ((y.1 / 8 : Nat) : Int)) rfl) rfl ?_
    first
      | refine L_v (opv_fieldAddr0 rfl) rfl ?_
      | refine L_v (opv_fieldAddr rfl) rfl ?_
    refine L_x rfl (opx_store rfl rfl rfl (by simp [Value.oneCell'])) (fun _ _ => ?_)
    refine L_nil ?_
    refine K_then ?_
    refine J_seq ?_
    refine J_region ?_
    first
      | refine L_v (opv_fieldAddr0 rfl) rfl ?_
      | refine L_v (opv_fieldAddr rfl) rfl ?_
    refine L_v (opv_load rfl (Rd.look rfl)) rfl ?_
    refine L_v (opv_move rfl) rfl ?_
    refine L_v (opv_move rfl) rfl ?_
    refine L_v (opv_move rfl) rfl ?_
    refine L_v ((opv_add64 rfl rfl (by omega)).as (v' := .int .i64 ((y.1 + roomN m : Nat) : Int)) (congrArg (Value.int .i64) (by omega))) rfl ?_
    refine L_v ((opv_sliceS rfl rfl rfl (by omega)).as (v' := .string (p.data.extract y.1 (y.1 + roomN m))) (by rw [Int.toNat_natCast, Int.toNat_natCast])) rfl ?_
    first
      | refine L_v (opv_fieldAddr0 rfl) rfl ?_
      | refine L_v (opv_fieldAddr rfl) rfl ?_
    refine L_x rfl (opx_store rfl rfl rfl (by simp [Value.oneCell'])) (fun _ _ => ?_)
    refine L_nil ?_
    refine K_then ?_
    refine J_seq ?_
    refine J_region ?_
    refine L_v (opv_move rfl) rfl ?_
    refine L_v ((opv_loadS rfl).as (v' := .agg (encR (prt p y.1 (y.1 + roomN m))).toArray) (congrArg (fun l : List Value => Value.agg l.toArray) (by simp [encR, prt]; omega))) rfl ?_
    refine L_x rfl (opx_buildSlice1 (m := 8) rfl rfl (by omega) (by omega) rfl) (fun b54 _ => ?_)
    refine L_x rfl (opx_append (m := 8) (B := 88) rfl rfl (Src.lit) rfl (by omega) rfl (encR_one _) (by unfold maxLen; omega) (by omega) rfl) (fun y55 _ => ?_)
    refine L_v (opv_assign rfl) rfl ?_
    refine L_nil ?_
    refine K_then ?_
    refine J_region ?_
    refine L_v (opv_move rfl) rfl ?_
    refine L_v (opv_move rfl) rfl ?_
    refine L_v ((opv_add64 rfl rfl (by omega)).as (v' := .int .i64 ((y.1 + roomN m : Nat) : Int)) (congrArg (Value.int .i64) (by omega))) rfl ?_
    refine L_v (opv_assign rfl) rfl ?_
    refine L_nil ?_
    refine K_block ?_
    rw [show y.2.2.length + 1 = (y.2.2 ++ [prt p y.1 (y.1 + roomN m)]).length by simp, show y.2.2.flatMap encR ++ encR (prt p y.1 (y.1 + roomN m)) = (y.2.2 ++ [prt p y.1 (y.1 + roomN m)]).flatMap encR by simp]
    have hs := splitL_a (p := p) (w := m - 39) (r := roomN m) (a := y.1) (by omega) (by omega)
    exact K_loop ((y.1 + roomN m, y55, y.2.2 ++ [prt p y.1 (y.1 + roomN m)])) ⟨by show y.1 + roomN m ≤ _; omega, by show (y.2.2 ++ [_]).length ≤ y.1 + roomN m; rw [List.length_append]; simp only [List.length_cons, List.length_nil]; omega, by show (y.2.2 ++ [prt p y.1 (y.1 + roomN m)]) ++ splitL p (m - 39) (roomN m) (y.1 + roomN m) = _; rw [← hy, hs, List.append_assoc]; rfl⟩ (by show _ - (y.1 + roomN m) < _; omega) ⟨rfl, rfl, rfl, rfl, rfl, trivial⟩ Ent.take
  · refine J_exit ?_
    refine K_then_exit ?_
    refine K_then_exit ?_
    refine K_block_here ?_
    refine K_then ?_
    refine J_seq ?_
    refine J_region ?_
    refine L_v (opv_loadS rfl) rfl ?_
    refine L_x rfl (opx_alloc rfl) (fun b11 _ => ?_)
    refine L_x rfl (opx_store rfl rfl rfl (by simp [Value.oneCell'])) (fun _ _ => ?_)
    refine L_nil ?_
    refine K_then ?_
    refine J_seq ?_
    refine J_region ?_
    refine L_v (opv_move rfl) rfl ?_
    refine L_v ((opv_quoP rfl rfl (by omega)).as (v' := .int .i64 ((y.1 / 8 : Nat) : Int)) rfl) rfl ?_
    first
      | refine L_v (opv_fieldAddr0 rfl) rfl ?_
      | refine L_v (opv_fieldAddr rfl) rfl ?_
    refine L_x rfl (opx_store rfl rfl rfl (by simp [Value.oneCell'])) (fun _ _ => ?_)
    refine L_nil ?_
    refine K_then ?_
    refine J_seq ?_
    refine J_region ?_
    first
      | refine L_v (opv_fieldAddr0 rfl) rfl ?_
      | refine L_v (opv_fieldAddr rfl) rfl ?_
    refine L_v (opv_load rfl (Rd.look rfl)) rfl ?_
    refine L_v (opv_move rfl) rfl ?_
    refine L_v ((opv_sliceSlo rfl rfl (by omega)).as (v' := .string (p.data.extract y.1 p.data.size)) (congrArg (fun k => Value.string (p.data.extract k p.data.size)) (Int.toNat_natCast y.1))) rfl ?_
    first
      | refine L_v (opv_fieldAddr0 rfl) rfl ?_
      | refine L_v (opv_fieldAddr rfl) rfl ?_
    refine L_x rfl (opx_store rfl rfl rfl (by simp [Value.oneCell'])) (fun _ _ => ?_)
    refine L_nil ?_
    refine K_then ?_
    refine J_seq ?_
    refine J_region ?_
    refine L_v (opv_move rfl) rfl ?_
    refine L_v ((opv_loadS rfl).as (v' := .agg (encR (prt p y.1 (p.data.size))).toArray) (congrArg (fun l : List Value => Value.agg l.toArray) (by simp [encR, prt, hf]))) rfl ?_
    refine L_x rfl (opx_buildSlice1 (m := 8) rfl rfl (by omega) (by omega) rfl) (fun b70 _ => ?_)
    refine L_x rfl (opx_append (m := 8) (B := 88) rfl rfl (Src.lit) rfl (by omega) rfl (encR_one _) (by unfold maxLen; omega) (by omega) rfl) (fun y71 _ => ?_)
    refine L_v (opv_assign rfl) rfl ?_
    refine L_v (opv_assign rfl) rfl ?_
    refine L_nil ?_
    refine K_then ?_
    refine J_ret ?_
    rw [show y.2.2.length + 1 = (y.2.2 ++ [prt p y.1 p.data.size]).length by simp, show y.2.2.flatMap encR ++ encR (prt p y.1 p.data.size) = (y.2.2 ++ [prt p y.1 p.data.size]).flatMap encR by simp]
    have hb := splitL_b (p := p) (w := m - 39) (r := roomN m) (a := y.1) (by omega)
    have hfin : y.2.2 ++ [prt p y.1 p.data.size] = splitL p (m - 39) (roomN m) 0 := by rw [← hy, hb]
    rw [hfin]
    exact K_ret2 rfl rfl rfl y71 trivial rfl Ent.take

end Go.Proofs.Ytjpbpfihacfndaa
