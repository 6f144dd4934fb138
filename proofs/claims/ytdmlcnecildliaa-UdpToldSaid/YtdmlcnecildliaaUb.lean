/- The law UdpEncodes of the package pitotlaw06 holds for every input: which bytes a datagram is, or that it may not be. No condition. -/
import Derived.Test.YtdmlcnecildliaaUa
import Derived.Test.YtdmlcnecildliaaH
namespace Go.Proofs.Ytdmlcnecildliaa
open Go.SLA
set_option maxRecDepth 100000
set_option linter.unusedVariables false
set_option linter.unusedSimpArgs false
attribute [local irreducible] J L K QL Rg FSpec OpV OpX Rd Back
structure En where
  a0 : Int
  a1 : Int
  a2 : Int
  a3 : Int
  b0 : Int
  b1 : Int
  b2 : Int
  b3 : Int
  f : Int
  g : Int
def encEn (x : En) : List Value := [.int .u8 x.a0, .int .u8 x.a1, .int .u8 x.a2, .int .u8 x.a3, .int .u8 x.b0, .int .u8 x.b1, .int .u8 x.b2, .int .u8 x.b3, .int .i64 x.f, .int .i64 x.g]
def okEn (x : En) : Prop := (Lit.int .u8 x.a0).wf = true ∧ (Lit.int .u8 x.a1).wf = true ∧ (Lit.int .u8 x.a2).wf = true ∧ (Lit.int .u8 x.a3).wf = true ∧ (Lit.int .u8 x.b0).wf = true ∧ (Lit.int .u8 x.b1).wf = true ∧ (Lit.int .u8 x.b2).wf = true ∧ (Lit.int .u8 x.b3).wf = true ∧ (Lit.int .i64 x.f).wf = true ∧ (Lit.int .i64 x.g).wf = true
abbrev ksEn : List CK := [.int .u8, .int .u8, .int .u8, .int .u8, .int .u8, .int .u8, .int .u8, .int .u8, .int .i64, .int .i64]
theorem encEn_len (x : En) : (encEn x).length = 10 := rfl
theorem decEn (cs : List Value) (h : Kinds ksEn cs) : ∃ x, cs = encEn x ∧ okEn x := by
  obtain ⟨hl, hk⟩ := h
  obtain ⟨v0, g0, x0, rfl, w0⟩ := hk 0 _ rfl
  obtain ⟨v1, g1, x1, rfl, w1⟩ := hk 1 _ rfl
  obtain ⟨v2, g2, x2, rfl, w2⟩ := hk 2 _ rfl
  obtain ⟨v3, g3, x3, rfl, w3⟩ := hk 3 _ rfl
  obtain ⟨v4, g4, x4, rfl, w4⟩ := hk 4 _ rfl
  obtain ⟨v5, g5, x5, rfl, w5⟩ := hk 5 _ rfl
  obtain ⟨v6, g6, x6, rfl, w6⟩ := hk 6 _ rfl
  obtain ⟨v7, g7, x7, rfl, w7⟩ := hk 7 _ rfl
  obtain ⟨v8, g8, x8, rfl, w8⟩ := hk 8 _ rfl
  obtain ⟨v9, g9, x9, rfl, w9⟩ := hk 9 _ rfl
  match cs, hl with
  | [c0, c1, c2, c3, c4, c5, c6, c7, c8, c9], _ =>
    simp only [List.getElem?_cons_zero, List.getElem?_cons_succ, Option.some.injEq] at g0 g1 g2 g3 g4 g5 g6 g7 g8 g9
    exact ⟨⟨x0, x1, x2, x3, x4, x5, x6, x7, x8, x9⟩, by simp only [encEn, *], ⟨w0, w1, w2, w3, w4, w5, w6, w7, w8, w9⟩⟩


def En.a (x : En) : List Int := [x.a0, x.a1, x.a2, x.a3]
def En.b (x : En) : List Int := [x.b0, x.b1, x.b2, x.b3]
theorem wf8 {n : Int} (h : (Lit.int .u8 n).wf = true) : 0 ≤ n ∧ n < 256 := by
  have : 0 ≤ n ∧ n ≤ 255 := by simpa [Lit.wf, IntKind.min, IntKind.max, IntKind.signed, IntKind.bits] using h
  omega
theorem wf64 {n : Int} (h : (Lit.int .i64 n).wf = true) : -9223372036854775808 ≤ n ∧ n ≤ 9223372036854775807 := by simpa [Lit.wf, IntKind.min, IntKind.max, IntKind.signed, IntKind.bits] using h
theorem okEn.a {x : En} (h : okEn x) : ∀ v ∈ x.a, 0 ≤ v ∧ v < 256 := by
  obtain ⟨h0, h1, h2, h3, _⟩ := h
  intro v hv
  simp only [En.a, List.mem_cons, List.not_mem_nil, or_false] at hv
  rcases hv with rfl | rfl | rfl | rfl <;> exact wf8 (by assumption)
theorem okEn.b {x : En} (h : okEn x) : ∀ v ∈ x.b, 0 ≤ v ∧ v < 256 := by
  obtain ⟨_, _, _, _, h0, h1, h2, h3, _⟩ := h
  intro v hv
  simp only [En.b, List.mem_cons, List.not_mem_nil, or_false] at hv
  rcases hv with rfl | rfl | rfl | rfl <;> exact wf8 (by assumption)
theorem okEn.f {x : En} (h : okEn x) : -9223372036854775808 ≤ x.f ∧ x.f ≤ 9223372036854775807 := wf64 h.2.2.2.2.2.2.2.2.1
theorem okEn.g {x : En} (h : okEn x) : -9223372036854775808 ≤ x.g ∧ x.g ≤ 9223372036854775807 := wf64 h.2.2.2.2.2.2.2.2.2
/-- May ports be? -/
def portsB (x : En) : Prop := (0 ≤ x.f ∧ x.f ≤ 65535) ∧ (0 ≤ x.g ∧ x.g ≤ 65535)
instance (x : En) : Decidable (portsB x) := inferInstanceAs (Decidable (_ ∧ _))
def head3 (x : En) (n : Nat) : ByteArray := be x.f.toNat 2 ++ be x.g.toNat 2 ++ be (8 + n) 2
/-- The bytes of a datagram. -/
def datag (x : En) (t : ByteArray) : ByteArray := head3 x t.size ++ be (usum x.a x.b (head3 x t.size ++ ⟨#[0, 0]⟩ ++ t)) 2 ++ t
theorem put_bad2 {x : En} (h : ¬ portsB x) : (putS (putS (bytesL []) false x.f 2).1 (putS (bytesL []) false x.f 2).2 x.g 2).2 = true := by
  unfold portsB at h
  by_cases h1 : fitB x.f (8 * 2)
  · have h2 : ¬ fitB x.g (8 * 2) := fun h2 => h ⟨fit16.1 h1, fit16.1 h2⟩
    have e : putS (bytesL []) false x.f 2 = (bytesL [] ++ be x.f.toNat 2, false) := by unfold putS; rw [if_neg (by decide), if_pos h1]
    rw [e]
    unfold putS
    rw [if_neg (fun h => by cases h), if_neg h2]
  · have e : putS (bytesL []) false x.f 2 = (bytesL [], true) := by unfold putS; rw [if_neg (by decide), if_neg h1]
    rw [e]
    unfold putS
    rw [if_pos rfl]
theorem usum_le (a b : List Int) (t : ByteArray) : usum a b t ≤ 65535 := by
  unfold usum
  have := ones_le (sumT a b t)
  split <;> omega

theorem Encode_bad (x : En) (t : ByteArray) (hx : okEn x) (h : ¬ portsB x) : FSpec Try.prog 19 #[.agg (encEn x).toArray, .string t] (emp) (fun _ : Unit => True) (fun _ => .tuple #[.string (ByteArray.empty), .int .i64 1]) (fun _ => emp) := by
  refine FSpec.enter' Try.func19 rfl Try.ntmps19 rfl fun σ F => ?_
  refine J_emp ?_
  refine J_seq ?_
  refine J_region ?_
  refine L_x rfl (opx_box (l := [.int .u8 x.a0, .int .u8 x.a1, .int .u8 x.a2, .int .u8 x.a3, .int .u8 x.b0, .int .u8 x.b1, .int .u8 x.b2, .int .u8 x.b3, .int .i64 x.f, .int .i64 x.g]) rfl rfl) (fun b2 _ => ?_)
  refine L_v (opv_assign rfl) rfl ?_
  refine L_v (opv_assign rfl) rfl ?_
  refine L_nil ?_
  refine K_then ?_
  refine J_seq ?_
  refine J_region ?_
  refine L_v (opv_build rfl) rfl ?_
  refine L_x rfl (opx_box rfl rfl) (fun p _ => ?_)
  refine L_v (opv_assign rfl) rfl ?_
  refine L_nil ?_
  refine K_then ?_
  refine J_seq ?_
  refine J_imp _ WrP_new ?_
  refine J_region ?_
  refine L_v (opv_move rfl) rfl ?_
  first
    | refine L_v (opv_fieldAddr0 rfl) rfl ?_
    | refine L_v (opv_fieldAddr rfl) rfl ?_
  refine L_v (opv_load rfl (Rd.look rfl)) rfl ?_
  refine L_x rfl (opx_call0 (U16_spec p (bytesL []) false x.f hx.f (by decide)) rfl rfl rfl) (fun _ _ => ?_)
  refine L_nil ?_
  refine K_then ?_
  refine J_seq ?_
  refine J_region ?_
  refine L_v (opv_move rfl) rfl ?_
  first
    | refine L_v (opv_fieldAddr0 rfl) rfl ?_
    | refine L_v (opv_fieldAddr rfl) rfl ?_
  refine L_v (opv_load rfl (Rd.look rfl)) rfl ?_
  refine L_x rfl (opx_call0 (U16_spec p (putS (bytesL []) false x.f 2).1 (putS (bytesL []) false x.f 2).2 x.g hx.g (by have h := putS_size (bytesL []) false x.f 2; have e : (bytesL []).size = 0 := rfl; omega)) rfl rfl rfl) (fun _ _ => ?_)
  refine L_nil ?_
  refine K_then ?_
  refine J_seq ?_
  rw [put_bad2 h]
  refine J_region ?_
  refine L_v (opv_move rfl) rfl ?_
  refine L_x rfl (opx_call0 (Bytes_bad p (putS (putS (bytesL []) false x.f 2).1 (putS (bytesL []) false x.f 2).2 x.g 2).1) rfl rfl rfl) (fun _ _ => ?_)
  refine L_v (opv_move rfl) rfl ?_
  refine L_v (opv_extract rfl rfl) rfl ?_
  refine L_v (opv_extract rfl rfl) rfl ?_
  refine L_v (opv_assign rfl) rfl ?_
  refine L_v (opv_assign rfl) rfl ?_
  refine L_nil ?_
  refine K_then ?_
  refine J_seq ?_
  refine J_block ?_
  refine J_seq ?_
  refine J_region ?_
  refine L_v (opv_move rfl) rfl ?_
  refine L_v ((opv_neq rfl rfl).bool_t (by decide)) rfl ?_
  refine L_v (opv_assign rfl) rfl ?_
  refine L_nil ?_
  refine K_then ?_
  refine J_cond_true rfl ?_
  refine J_seq ?_
  refine J_region ?_
  refine L_v (opv_move rfl) rfl ?_
  refine L_v (opv_assign rfl) rfl ?_
  refine L_v (opv_assign rfl) rfl ?_
  refine L_nil ?_
  refine K_then ?_
  refine J_ret ?_
  refine K_block_ret ?_
  refine K_then_ret ?_
  exact K_ret2 rfl rfl rfl () trivial rfl Ent.take

theorem Encode_long (x : En) (t : ByteArray) (hx : okEn x) (h : portsB x) (ht : 8192 < t.size) (ht2 : t.size ≤ 1099511627776) : FSpec Try.prog 19 #[.agg (encEn x).toArray, .string t] (emp) (fun _ : Unit => True) (fun _ => .tuple #[.string (ByteArray.empty), .int .i64 11]) (fun _ => emp) := by
  refine FSpec.enter' Try.func19 rfl Try.ntmps19 rfl fun σ F => ?_
  refine J_emp ?_
  refine J_seq ?_
  refine J_region ?_
  refine L_x rfl (opx_box (l := [.int .u8 x.a0, .int .u8 x.a1, .int .u8 x.a2, .int .u8 x.a3, .int .u8 x.b0, .int .u8 x.b1, .int .u8 x.b2, .int .u8 x.b3, .int .i64 x.f, .int .i64 x.g]) rfl rfl) (fun b2 _ => ?_)
  refine L_v (opv_assign rfl) rfl ?_
  refine L_v (opv_assign rfl) rfl ?_
  refine L_nil ?_
  refine K_then ?_
  refine J_seq ?_
  refine J_region ?_
  refine L_v (opv_build rfl) rfl ?_
  refine L_x rfl (opx_box rfl rfl) (fun p _ => ?_)
  refine L_v (opv_assign rfl) rfl ?_
  refine L_nil ?_
  refine K_then ?_
  refine J_seq ?_
  refine J_imp _ WrP_new ?_
  refine J_region ?_
  refine L_v (opv_move rfl) rfl ?_
  first
    | refine L_v (opv_fieldAddr0 rfl) rfl ?_
    | refine L_v (opv_fieldAddr rfl) rfl ?_
  refine L_v (opv_load rfl (Rd.look rfl)) rfl ?_
  refine L_x rfl (opx_call0 (U16_n p (bytesL []) x.f h.1 (by decide)) rfl rfl rfl) (fun _ _ => ?_)
  refine L_nil ?_
  refine K_then ?_
  refine J_seq ?_
  rw [nil_app]
  refine J_region ?_
  refine L_v (opv_move rfl) rfl ?_
  first
    | refine L_v (opv_fieldAddr0 rfl) rfl ?_
    | refine L_v (opv_fieldAddr rfl) rfl ?_
  refine L_v (opv_load rfl (Rd.look rfl)) rfl ?_
  refine L_x rfl (opx_call0 (U16_n p (be x.f.toNat 2) x.g h.2 (by rw [be_size]; decide)) rfl rfl rfl) (fun _ _ => ?_)
  refine L_nil ?_
  refine K_then ?_
  refine J_seq ?_
  refine J_region ?_
  refine L_v (opv_move rfl) rfl ?_
  refine L_x rfl (opx_call0 (Bytes_ok p (be x.f.toNat 2 ++ be x.g.toNat 2)) rfl rfl rfl) (fun _ _ => ?_)
  refine L_v (opv_move rfl) rfl ?_
  refine L_v (opv_extract rfl rfl) rfl ?_
  refine L_v (opv_extract rfl rfl) rfl ?_
  refine L_v (opv_assign rfl) rfl ?_
  refine L_v (opv_assign rfl) rfl ?_
  refine L_nil ?_
  refine K_then ?_
  refine J_seq ?_
  refine J_block ?_
  refine J_seq ?_
  refine J_region ?_
  refine L_v (opv_move rfl) rfl ?_
  refine L_v ((opv_neq rfl rfl).bool_f (by decide)) rfl ?_
  refine L_v (opv_assign rfl) rfl ?_
  refine L_nil ?_
  refine K_then ?_
  refine J_cond_false rfl ?_
  refine J_seq ?_
  refine J_region ?_
  refine L_v (opv_move rfl) rfl ?_
  first
    | refine L_v (opv_lenL rfl) rfl ?_
    | refine L_v (opv_lenS rfl) rfl ?_
  refine L_v ((opv_gtr rfl rfl).bool_t (by omega)) rfl ?_
  refine L_v (opv_assign rfl) rfl ?_
  refine L_nil ?_
  refine K_then ?_
  refine J_cond_true rfl ?_
  refine J_seq ?_
  refine J_region ?_
  refine L_v (opv_assign rfl) rfl ?_
  refine L_v (opv_assign rfl) rfl ?_
  refine L_nil ?_
  refine K_then ?_
  refine J_ret ?_
  refine K_block_ret ?_
  refine K_then_ret ?_
  exact K_ret2 rfl rfl rfl () trivial rfl Ent.take

attribute [local irreducible] be usum ones
set_option maxHeartbeats 400000 in
theorem Encode_ok (x : En) (t : ByteArray) (hx : okEn x) (h : portsB x) (ht : t.size ≤ 8192) : FSpec Try.prog 19 #[.agg (encEn x).toArray, .string t] (emp) (fun _ : Unit => True) (fun _ => .tuple #[.string (datag x t), .int .i64 0]) (fun _ => emp) := by
  have hz2 : (be x.f.toNat 2 ++ be x.g.toNat 2).size = 4 := by rw [ByteArray.size_append, be_size, be_size]
  have hz3 : (head3 x t.size).size = 6 := by unfold head3; rw [ByteArray.size_append, hz2, be_size]
  have hz0 : (⟨#[0, 0]⟩ : ByteArray).size = 2 := rfl
  have hz4 : ((head3 x t.size) ++ be (usum x.a x.b (head3 x t.size ++ ⟨#[0, 0]⟩ ++ t)) 2).size = 8 := by rw [ByteArray.size_append, hz3, be_size]
  have hul := usum_le x.a x.b (head3 x t.size ++ ⟨#[0, 0]⟩ ++ t)
  refine FSpec.enter' Try.func19 rfl Try.ntmps19 rfl fun σ F => ?_
  refine J_emp ?_
  refine J_seq ?_
  refine J_region ?_
  refine L_x rfl (opx_box (l := [.int .u8 x.a0, .int .u8 x.a1, .int .u8 x.a2, .int .u8 x.a3, .int .u8 x.b0, .int .u8 x.b1, .int .u8 x.b2, .int .u8 x.b3, .int .i64 x.f, .int .i64 x.g]) rfl rfl) (fun b2 _ => ?_)
  refine L_v (opv_assign rfl) rfl ?_
  refine L_v (opv_assign rfl) rfl ?_
  refine L_nil ?_
  refine K_then ?_
  refine J_seq ?_
  refine J_region ?_
  refine L_v (opv_build rfl) rfl ?_
  refine L_x rfl (opx_box rfl rfl) (fun p _ => ?_)
  refine L_v (opv_assign rfl) rfl ?_
  refine L_nil ?_
  refine K_then ?_
  refine J_seq ?_
  refine J_imp _ WrP_new ?_
  refine J_region ?_
  refine L_v (opv_move rfl) rfl ?_
  first
    | refine L_v (opv_fieldAddr0 rfl) rfl ?_
    | refine L_v (opv_fieldAddr rfl) rfl ?_
  refine L_v (opv_load rfl (Rd.look rfl)) rfl ?_
  refine L_x rfl (opx_call0 (U16_n p (bytesL []) x.f h.1 (by decide)) rfl rfl rfl) (fun _ _ => ?_)
  refine L_nil ?_
  refine K_then ?_
  refine J_seq ?_
  rw [nil_app]
  refine J_region ?_
  refine L_v (opv_move rfl) rfl ?_
  first
    | refine L_v (opv_fieldAddr0 rfl) rfl ?_
    | refine L_v (opv_fieldAddr rfl) rfl ?_
  refine L_v (opv_load rfl (Rd.look rfl)) rfl ?_
  refine L_x rfl (opx_call0 (U16_n p (be x.f.toNat 2) x.g h.2 (by rw [be_size]; decide)) rfl rfl rfl) (fun _ _ => ?_)
  refine L_nil ?_
  refine K_then ?_
  refine J_seq ?_
  refine J_region ?_
  refine L_v (opv_move rfl) rfl ?_
  refine L_x rfl (opx_call0 (Bytes_ok p (be x.f.toNat 2 ++ be x.g.toNat 2)) rfl rfl rfl) (fun _ _ => ?_)
  refine L_v (opv_move rfl) rfl ?_
  refine L_v (opv_extract rfl rfl) rfl ?_
  refine L_v (opv_extract rfl rfl) rfl ?_
  refine L_v (opv_assign rfl) rfl ?_
  refine L_v (opv_assign rfl) rfl ?_
  refine L_nil ?_
  refine K_then ?_
  refine J_seq ?_
  refine J_block ?_
  refine J_seq ?_
  refine J_region ?_
  refine L_v (opv_move rfl) rfl ?_
  refine L_v ((opv_neq rfl rfl).bool_f (by decide)) rfl ?_
  refine L_v (opv_assign rfl) rfl ?_
  refine L_nil ?_
  refine K_then ?_
  refine J_cond_false rfl ?_
  refine J_seq ?_
  refine J_region ?_
  refine L_v (opv_move rfl) rfl ?_
  first
    | refine L_v (opv_lenL rfl) rfl ?_
    | refine L_v (opv_lenS rfl) rfl ?_
  refine L_v ((opv_gtr rfl rfl).bool_f (by omega)) rfl ?_
  refine L_v (opv_assign rfl) rfl ?_
  refine L_nil ?_
  refine K_then ?_
  refine J_cond_false rfl ?_
  refine J_skip ?_
  refine K_block ?_
  refine K_then ?_
  refine J_seq ?_
  refine J_region ?_
  refine L_v (opv_move rfl) rfl ?_
  refine L_v (opv_move rfl) rfl ?_
  first
    | refine L_v (opv_lenL rfl) rfl ?_
    | refine L_v (opv_lenS rfl) rfl ?_
  refine L_v ((opv_add64 rfl rfl (by omega)).as (v' := .int .i64 ((8 + t.size : Nat) : Int)) (by rw [Int.natCast_add]; rfl)) rfl ?_
  refine L_x rfl (opx_call0 (U16_ok p (be x.f.toNat 2 ++ be x.g.toNat 2) (8 + t.size) (by omega) (by omega)) rfl rfl rfl) (fun _ _ => ?_)
  refine L_nil ?_
  refine K_then ?_
  refine J_seq ?_
  rw [show (be x.f.toNat 2 ++ be x.g.toNat 2) ++ be (8 + t.size) 2 = (head3 x t.size) from rfl]
  refine J_region ?_
  refine L_v (opv_move rfl) rfl ?_
  refine L_x rfl (opx_call0 (Bytes_ok p (head3 x t.size)) rfl rfl rfl) (fun _ _ => ?_)
  refine L_v (opv_move rfl) rfl ?_
  refine L_v (opv_extract rfl rfl) rfl ?_
  refine L_v (opv_extract rfl rfl) rfl ?_
  refine L_v (opv_assign rfl) rfl ?_
  refine L_nil ?_
  refine K_then ?_
  refine J_seq ?_
  refine J_region ?_
  refine L_v (opv_move rfl) rfl ?_
  first
    | refine L_v (opv_fieldAddr0 rfl) rfl ?_
    | refine L_v (opv_fieldAddr rfl) rfl ?_
  refine L_v (opv_loadS rfl) rfl ?_
  first
    | refine L_v (opv_fieldAddr0 rfl) rfl ?_
    | refine L_v (opv_fieldAddr rfl) rfl ?_
  refine L_v (opv_loadS rfl) rfl ?_
  refine L_v (opv_move rfl) rfl ?_
  refine L_v (opv_addS rfl rfl (by rw [hz3]; decide)) rfl ?_
  refine L_v (opv_move rfl) rfl ?_
  refine L_v (opv_addS rfl rfl (by rw [ByteArray.size_append, hz3]; omega)) rfl ?_
  refine L_x rfl (opx_call0 (usum_spec x.a x.b ((head3 x t.size) ++ ⟨#[0, 0]⟩ ++ t) rfl rfl hx.a hx.b (by rw [ByteArray.size_append, ByteArray.size_append, hz3, hz0]; omega)) rfl rfl rfl) (fun _ _ => ?_)
  refine L_emp ?_
  refine L_x rfl (opx_call0 (U16_ok p (head3 x t.size) (usum x.a x.b (head3 x t.size ++ ⟨#[0, 0]⟩ ++ t)) hul (by omega)) rfl rfl rfl) (fun _ _ => ?_)
  refine L_nil ?_
  refine K_then ?_
  refine J_seq ?_
  refine J_region ?_
  refine L_v (opv_move rfl) rfl ?_
  refine L_v (opv_move rfl) rfl ?_
  refine L_x rfl (opx_call0 (WText_ok p ((head3 x t.size) ++ be (usum x.a x.b (head3 x t.size ++ ⟨#[0, 0]⟩ ++ t)) 2) t (by omega) (by omega)) rfl rfl rfl) (fun _ _ => ?_)
  refine L_nil ?_
  refine K_then ?_
  refine J_seq ?_
  refine J_region ?_
  refine L_v (opv_move rfl) rfl ?_
  refine L_x rfl (opx_call0 (Bytes_ok p ((head3 x t.size) ++ be (usum x.a x.b (head3 x t.size ++ ⟨#[0, 0]⟩ ++ t)) 2 ++ t)) rfl rfl rfl) (fun _ _ => ?_)
  refine L_v (opv_extract rfl rfl) rfl ?_
  refine L_v (opv_extract rfl rfl) rfl ?_
  refine L_v (opv_assign rfl) rfl ?_
  refine L_v (opv_assign rfl) rfl ?_
  refine L_nil ?_
  refine K_then ?_
  refine J_ret ?_
  exact K_ret2 rfl rfl rfl () trivial rfl Ent.take

end Go.Proofs.Ytdmlcnecildliaa
