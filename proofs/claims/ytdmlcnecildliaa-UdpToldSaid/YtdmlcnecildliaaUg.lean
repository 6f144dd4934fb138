/- The laws UdpBack, UdpCut and UdpNone of the package pitotlaw06 hold for every input: what was encoded is decoded by the same addresses; a datagram of which the end is missing, or behind which something is, is none; one without a sum is taken from any addresses. No condition. -/
import Derived.Test.YtdmlcnecildliaaUf
import Derived.Test.YtdmlcnecildliaaV
import Derived.Test.YtdmlcnecildliaaH
namespace Go.Proofs.Ytdmlcnecildliaa
open Go.SLA
set_option maxRecDepth 100000
set_option linter.unusedVariables false
set_option linter.unusedSimpArgs false
attribute [local irreducible] J L K QL Rg FSpec OpV OpX Rd Back
attribute [local irreducible] be usum ones sumT word nextC datag
theorem Encode_longer (x : En) (t : ByteArray) (hx : okEn x) (h : portsB x) (ht : 8192 < t.size) : FSpec Try.prog 19 #[.agg (encEn x).toArray, .string t] (emp) (fun _ : Unit => True) (fun _ => .tuple #[.string (ByteArray.empty), .int .i64 11]) (fun _ => emp) := by
  refine FSpec.enter' Try.func19 rfl Try.ntmps19 rfl fun σ F => ?_
  refine J_emp ?_
  refine J_seq ?_
  refine J_region ?_
  refine L_x rfl (opx_box (l := [.int .u8 x.a0, .int .u8 x.a1, .int .u8 x.a2, .int .u8 x.a3, .int .u8 x.b0, .int .u8 x.b1, .int .u8 x.b2, .int .u8 x.b3, .int .i64 x.f, .int .i64 x.g]) rfl rfl) (fun b2 _ => ?_)
  refine L_v (opv_assign rfl) rfl ?_
  refine L_v (opv_assign rfl) rfl ?_
  refine L_nil ?_
  refine K_then ?_
  refine J_seq ?_
  refine J_region ?_
  refine L_v (opv_build rfl) rfl ?_
  refine L_x rfl (opx_box rfl rfl) (fun p _ => ?_)
  refine L_v (opv_assign rfl) rfl ?_
  refine L_nil ?_
  refine K_then ?_
  refine J_seq ?_
  refine J_imp _ WrP_new ?_
  refine J_region ?_
  refine L_v (opv_move rfl) rfl ?_
  first
    | refine L_v (opv_fieldAddr0 rfl) rfl ?_
    | refine L_v (opv_fieldAddr rfl) rfl ?_
  refine L_v (opv_load rfl (Rd.look rfl)) rfl ?_
  refine L_x rfl (opx_call0 (U16_n p (bytesL []) x.f h.1 (by decide)) rfl rfl rfl) (fun _ _ => ?_)
  refine L_nil ?_
  refine K_then ?_
  refine J_seq ?_
  rw [nil_app]
  refine J_region ?_
  refine L_v (opv_move rfl) rfl ?_
  first
    | refine L_v (opv_fieldAddr0 rfl) rfl ?_
    | refine L_v (opv_fieldAddr rfl) rfl ?_
  refine L_v (opv_load rfl (Rd.look rfl)) rfl ?_
  refine L_x rfl (opx_call0 (U16_n p (be x.f.toNat 2) x.g h.2 (by rw [be_size]; decide)) rfl rfl rfl) (fun _ _ => ?_)
  refine L_nil ?_
  refine K_then ?_
  refine J_seq ?_
  refine J_region ?_
  refine L_v (opv_move rfl) rfl ?_
  refine L_x rfl (opx_call0 (Bytes_ok p (be x.f.toNat 2 ++ be x.g.toNat 2)) rfl rfl rfl) (fun _ _ => ?_)
  refine L_v (opv_move rfl) rfl ?_
  refine L_v (opv_extract rfl rfl) rfl ?_
  refine L_v (opv_extract rfl rfl) rfl ?_
  refine L_v (opv_assign rfl) rfl ?_
  refine L_v (opv_assign rfl) rfl ?_
  refine L_nil ?_
  refine K_then ?_
  refine J_seq ?_
  refine J_block ?_
  refine J_seq ?_
  refine J_region ?_
  refine L_v (opv_move rfl) rfl ?_
  refine L_v ((opv_neq rfl rfl).bool_f (by decide)) rfl ?_
  refine L_v (opv_assign rfl) rfl ?_
  refine L_nil ?_
  refine K_then ?_
  refine J_cond_false rfl ?_
  refine J_seq ?_
  refine J_region ?_
  refine L_v (opv_move rfl) rfl ?_
  first
    | refine L_v (opv_lenL rfl) rfl ?_
    | refine L_v (opv_lenS rfl) rfl ?_
  refine L_v ((opv_gtr rfl rfl).bool_t (by omega)) rfl ?_
  refine L_v (opv_assign rfl) rfl ?_
  refine L_nil ?_
  refine K_then ?_
  refine J_cond_true rfl ?_
  refine J_seq ?_
  refine J_region ?_
  refine L_v (opv_assign rfl) rfl ?_
  refine L_v (opv_assign rfl) rfl ?_
  refine L_nil ?_
  refine K_then ?_
  refine J_ret ?_
  refine K_block_ret ?_
  refine K_then_ret ?_
  exact K_ret2 rfl rfl rfl () trivial rfl Ent.take


/-- What Encode answers. -/
def encU (x : En) (t : ByteArray) : ByteArray × Int := if ¬ portsB x then (ByteArray.empty, 1) else if 8192 < t.size then (ByteArray.empty, 11) else (datag x t, 0)
theorem Encode_any (x : En) (t : ByteArray) (hx : okEn x) : FSpec Try.prog 19 #[.agg (encEn x).toArray, .string t] emp (fun _ : Unit => True) (fun _ => .tuple #[.string (encU x t).1, .int .i64 (encU x t).2]) (fun _ => emp) := by
  unfold encU
  by_cases h : portsB x
  · rw [if_neg (fun n => n h)]
    by_cases hl : 8192 < t.size
    · rw [if_pos hl]; exact Encode_longer x t hx h hl
    · rw [if_neg hl]; exact Encode_ok x t hx h (by omega)
  · rw [if_pos h]; exact Encode_bad x t hx h
theorem encU_ok {x : En} {t : ByteArray} (h : ¬ (encU x t).2 ≠ 0) : portsB x ∧ t.size ≤ 8192 ∧ encU x t = (datag x t, 0) := by
  unfold encU at h ⊢
  split at h
  · exact absurd (show (1 : Int) ≠ 0 by decide) h
  · rename_i hn
    rw [if_neg hn]
    split at h
    · exact absurd (show (11 : Int) ≠ 0 by decide) h
    · rename_i hl
      rw [if_neg hl]
      exact ⟨Classical.not_not.1 hn, by omega, rfl⟩
theorem encU_bad {x : En} {t : ByteArray} (h : (encU x t).2 ≠ 0) : (encU x t).1 = ByteArray.empty := by
  unfold encU at h ⊢
  split at h
  · rename_i hn; rw [if_pos hn]
  · rename_i hn
    rw [if_neg hn]
    split at h
    · rename_i hl; rw [if_pos hl]
    · exact absurd rfl h
theorem head3_size (x : En) (n : Nat) : (head3 x n).size = 6 := by unfold head3; simp only [ByteArray.size_append, be_size]
theorem head3_w0 {x : En} (h : portsB x) (n : Nat) : word (head3 x n) 0 = x.f.toNat := by
  unfold portsB at h
  unfold head3
  rw [word_app_l (by simp only [ByteArray.size_append, be_size]; omega), word_app_l (by simp only [be_size]; omega)]
  exact word_be (by omega)
theorem head3_w2 {x : En} (h : portsB x) (n : Nat) : word (head3 x n) 2 = x.g.toNat := by
  unfold portsB at h
  unfold head3
  rw [word_app_l (by simp only [ByteArray.size_append, be_size]; omega), word_app_r (by simp only [be_size]; omega)]
  simp only [be_size]
  exact word_be (by omega)
theorem head3_w4 (x : En) {n : Nat} (h : n ≤ 8192) : word (head3 x n) 4 = 8 + n := by
  unfold head3
  rw [word_app_r (by simp only [ByteArray.size_append, be_size]; omega)]
  simp only [ByteArray.size_append, be_size]
  exact word_be (by omega)
/-- A datagram with other bytes where its sum is. -/
def withSum (x : En) (u t : ByteArray) : ByteArray := head3 x t.size ++ u ++ t
theorem datag_eq (x : En) (t : ByteArray) : datag x t = withSum x (be (usum x.a x.b (withSum x ⟨#[0, 0]⟩ t)) 2) t := by unfold datag; rfl
set_option linter.unusedSectionVars false
section
variable {x : En} {u t : ByteArray} (hu : u.size = 2)
include hu
theorem ws_size : (withSum x u t).size = 8 + t.size := by unfold withSum; rw [ByteArray.size_append, ByteArray.size_append, head3_size, hu]
theorem ws_w0 (h : portsB x) : word (withSum x u t) 0 = x.f.toNat := by
  have := head3_size x t.size
  unfold withSum
  rw [word_app_l (by rw [ByteArray.size_append]; omega), word_app_l (by omega), head3_w0 h]
theorem ws_w2 (h : portsB x) : word (withSum x u t) 2 = x.g.toNat := by
  have := head3_size x t.size
  unfold withSum
  rw [word_app_l (by rw [ByteArray.size_append]; omega), word_app_l (by omega), head3_w2 h]
theorem ws_w4 (h : t.size ≤ 8192) : word (withSum x u t) 4 = 8 + t.size := by
  have := head3_size x t.size
  unfold withSum
  rw [word_app_l (by rw [ByteArray.size_append]; omega), word_app_l (by omega), head3_w4 x h]
theorem ws_w6 : word (withSum x u t) 6 = word u 0 := by
  have := head3_size x t.size
  unfold withSum
  rw [word_app_l (by rw [ByteArray.size_append]; omega), word_app_r (by omega), this]
theorem ws_rest : (withSum x u t).extract 8 (withSum x u t).size = t := by
  have hz := ws_size (x := x) (t := t) hu
  have e : (head3 x t.size ++ u).size = 8 := by rw [ByteArray.size_append, head3_size, hu]
  rw [hz]
  unfold withSum
  exact ByteArray.extract_append_eq_right (by rw [e]) (by rw [e])
theorem ws_head : (withSum x u t).extract 0 6 = head3 x t.size := by
  unfold withSum
  rw [ByteArray.append_assoc]
  exact ByteArray.extract_append_eq_left (by rw [head3_size])
theorem ws_summed : summed (withSum x u t) = withSum x ⟨#[0, 0]⟩ t := by
  unfold summed
  rw [ws_rest hu, ws_head hu]
  rfl
theorem ws_decU (h : portsB x) (ht : t.size ≤ 8192) (y : En) (hs : word u 0 = 0 ∨ word u 0 = usum y.a y.b (withSum x ⟨#[0, 0]⟩ t)) : decU y (withSum x u t) = (y.at x.f.toNat x.g.toNat, t, 0) := by
  have h0 := ws_size (x := x) (t := t) hu
  have h1 := ws_w4 (x := x) hu ht
  have h2 := ws_w6 (x := x) (t := t) hu
  have h3 := ws_summed (x := x) (t := t) hu
  unfold decU
  rw [if_neg (by omega), if_neg (by omega), if_neg (by omega), if_neg (by omega), h3, h2, if_neg (by omega), ws_w0 hu h, ws_w2 hu h, ws_rest hu]
end
theorem datag_decU {x : En} {t : ByteArray} (h : portsB x) (ht : t.size ≤ 8192) : decU x (datag x t) = (x, t, 0) := by
  rw [datag_eq, ws_decU (be_size _ _) h ht x (.inr (word_be (usum_le _ _ _)))]
  unfold portsB at h
  have e1 : ((x.f.toNat : Nat) : Int) = x.f := by omega
  have e2 : ((x.g.toNat : Nat) : Int) = x.g := by omega
  unfold En.at
  rw [e1, e2]
theorem UD_back (x : En) (t : ByteArray) (hx : okEn x) (h : portsB x) (ht : t.size ≤ 8192) : FSpec Try.prog 34 #[.agg [.int .u8 x.a0, .int .u8 x.a1, .int .u8 x.a2, .int .u8 x.a3].toArray, .agg [.int .u8 x.b0, .int .u8 x.b1, .int .u8 x.b2, .int .u8 x.b3].toArray, .string (datag x t)] emp (fun _ : Unit => True) (fun _ => .tuple #[.agg [.int .u8 x.a0, .int .u8 x.a1, .int .u8 x.a2, .int .u8 x.a3, .int .u8 x.b0, .int .u8 x.b1, .int .u8 x.b2, .int .u8 x.b3, .int .i64 x.f, .int .i64 x.g].toArray, .string t, .int .i64 0]) (fun _ => emp) := by
  have := UDecode_spec x (datag x t) hx (by rw [datag_size]; omega)
  rw [datag_decU h ht] at this
  exact this
theorem UD_none (x y : En) (t : ByteArray) (hx : okEn y) (h : portsB x) (ht : t.size ≤ 8192) : FSpec Try.prog 34 #[.agg [.int .u8 y.a0, .int .u8 y.a1, .int .u8 y.a2, .int .u8 y.a3].toArray, .agg [.int .u8 y.b0, .int .u8 y.b1, .int .u8 y.b2, .int .u8 y.b3].toArray, .string (withSum x ⟨#[0, 0]⟩ t)] emp (fun _ : Unit => True) (fun _ => .tuple #[.agg [.int .u8 y.a0, .int .u8 y.a1, .int .u8 y.a2, .int .u8 y.a3, .int .u8 y.b0, .int .u8 y.b1, .int .u8 y.b2, .int .u8 y.b3, .int .i64 x.f, .int .i64 x.g].toArray, .string t, .int .i64 0]) (fun _ => emp) := by
  have hu : (⟨#[0, 0]⟩ : ByteArray).size = 2 := rfl
  have := UDecode_spec y (withSum x ⟨#[0, 0]⟩ t) hx (by rw [ws_size hu]; omega)
  rw [ws_decU hu h ht y (.inl (by unfold word; rfl))] at this
  unfold portsB at h
  have e1 : ((x.f.toNat : Nat) : Int) = x.f := by omega
  have e2 : ((x.g.toNat : Nat) : Int) = x.g := by omega
  unfold En.at at this
  rw [e1, e2] at this
  exact this
theorem cut_decU {x : En} {t : ByteArray} (h : portsB x) (ht : t.size ≤ 8192) {k : Nat} (hk : k < 8 + t.size) : (decU x ((datag x t).extract 0 k)).2.2 = 10 := by
  have h0 := datag_size x t
  have hz : ((datag x t).extract 0 k).size = k := ext_size _ _ _ (by omega)
  by_cases h8 : k < 8
  · unfold decU; rw [if_pos (by omega)]
  · have hw : word ((datag x t).extract 0 k) 4 = 8 + t.size := by
      rw [← ws_w4 (x := x) (be_size (usum x.a x.b (withSum x ⟨#[0, 0]⟩ t)) 2) ht, ← datag_eq, word_eq, word_eq, bn_extract (by omega) (by omega), bn_extract (by omega) (by omega)]
    unfold decU
    rw [if_neg (by omega), if_neg (by omega), if_pos (by omega)]
theorem more_decU {x : En} {t s : ByteArray} (h : portsB x) (ht : t.size ≤ 8192) (hs : 0 < s.size) : (decU x (datag x t ++ s)).2.2 = 11 := by
  have h0 := datag_size x t
  have hz : (datag x t ++ s).size = 8 + t.size + s.size := by rw [ByteArray.size_append, h0]
  have hw : word (datag x t ++ s) 4 = 8 + t.size := by
    rw [word_app_l (by omega), datag_eq, ws_w4 (be_size _ _) ht]
  unfold decU
  rw [if_neg (by omega), if_neg (by omega), if_neg (by omega), if_pos (by omega)]
theorem UD_cut (x : En) (t : ByteArray) (hx : okEn x) (h : portsB x) (ht : t.size ≤ 8192) (k : Nat) (hk : k < 8 + t.size) : FSpec Try.prog 34 #[.agg [.int .u8 x.a0, .int .u8 x.a1, .int .u8 x.a2, .int .u8 x.a3].toArray, .agg [.int .u8 x.b0, .int .u8 x.b1, .int .u8 x.b2, .int .u8 x.b3].toArray, .string ((datag x t).extract 0 k)] emp (fun _ : Unit => True) (fun _ => .tuple #[.agg [.int .u8 0, .int .u8 0, .int .u8 0, .int .u8 0, .int .u8 0, .int .u8 0, .int .u8 0, .int .u8 0, .int .i64 0, .int .i64 0].toArray, .string ByteArray.empty, .int .i64 10]) (fun _ => emp) := by
  have e := cut_decU h ht hk
  have h0 := datag_size x t
  have := UD_bad x ((datag x t).extract 0 k) hx (by rw [ext_size _ _ _ (by omega)]; omega) (by rw [e]; decide)
  rwa [e] at this
theorem UD_more (x : En) (t s : ByteArray) (hx : okEn x) (h : portsB x) (ht : t.size ≤ 8192) (hs : 0 < s.size) (hs2 : s.size ≤ 10000) : FSpec Try.prog 34 #[.agg [.int .u8 x.a0, .int .u8 x.a1, .int .u8 x.a2, .int .u8 x.a3].toArray, .agg [.int .u8 x.b0, .int .u8 x.b1, .int .u8 x.b2, .int .u8 x.b3].toArray, .string (datag x t ++ s)] emp (fun _ : Unit => True) (fun _ => .tuple #[.agg [.int .u8 0, .int .u8 0, .int .u8 0, .int .u8 0, .int .u8 0, .int .u8 0, .int .u8 0, .int .u8 0, .int .i64 0, .int .i64 0].toArray, .string ByteArray.empty, .int .i64 11]) (fun _ => emp) := by
  have e := more_decU h ht hs
  have h0 := datag_size x t
  have := UD_bad x (datag x t ++ s) hx (by rw [ByteArray.size_append]; omega) (by rw [e]; decide)
  rwa [e] at this
attribute [local irreducible] encU decU withSum

theorem UB_law (W : World) (x : En) (t : ByteArray) (hx : okEn x) : FSpec Try.prog 9 #[.agg (encEn x).toArray, .string t] (old W) (fun _ : Unit => True) (fun _ => .bool true) (fun _ => old W) := by
  refine FSpec.enter' Try.func9 rfl Try.ntmps9 rfl fun σ F => ?_
  refine J_seq ?_
  refine J_region ?_
  refine L_x rfl (opx_box (l := [.int .u8 x.a0, .int .u8 x.a1, .int .u8 x.a2, .int .u8 x.a3, .int .u8 x.b0, .int .u8 x.b1, .int .u8 x.b2, .int .u8 x.b3, .int .i64 x.f, .int .i64 x.g]) rfl rfl) (fun b2 _ => ?_)
  refine L_v (opv_assign rfl) rfl ?_
  refine L_nil ?_
  refine K_then ?_
  refine J_seq ?_
  refine J_region ?_
  refine L_v (opv_loadS rfl) rfl ?_
  refine L_v (opv_move rfl) rfl ?_
  refine L_x rfl (opx_call0 (Encode_any x t hx) rfl rfl rfl) (fun _ _ => ?_)
  refine L_emp ?_
  refine L_v (opv_move rfl) rfl ?_
  refine L_v (opv_extract rfl rfl) rfl ?_
  refine L_v (opv_extract rfl rfl) rfl ?_
  refine L_v (opv_assign rfl) rfl ?_
  refine L_v (opv_assign rfl) rfl ?_
  refine L_nil ?_
  refine K_then ?_
  refine J_seq ?_
  refine J_seq ?_
  refine J_region ?_
  refine L_v (opv_move rfl) rfl ?_
  first
    | refine L_v (opv_neq rfl rfl) rfl ?_
    | refine L_v (opv_neqS rfl rfl) rfl ?_
    | refine L_v (opv_neqNil rfl rfl) rfl ?_
    | refine L_v (opv_neqB rfl rfl) rfl ?_
  refine L_nil ?_
  refine K_then ?_
  refine J_cond rfl (fun h1 => ?_) (fun h1 => ?_)
  · refine J_seq ?_
    refine J_region ?_
    refine L_v (opv_move rfl) rfl ?_
    refine L_v ((opv_eqlS rfl rfl).bool_t (encU_bad (by assumption))) rfl ?_
    refine L_v (opv_move rfl) rfl ?_
    refine L_gon rfl rfl rfl ?_
    refine L_x rfl (opx_call0 (uawake_spec) rfl rfl rfl) (fun _ _ => ?_)
    refine L_emp ?_
    first
      | refine L_v (opv_pick_tt rfl rfl) rfl ?_
      | refine L_v (opv_pick_ff rfl rfl) rfl ?_
      | refine L_v (opv_pick rfl rfl rfl) rfl ?_
    refine L_v (opv_assign rfl) rfl ?_
    refine L_nil ?_
    refine K_then ?_
    refine J_ret ?_
    refine K_then_ret ?_
    exact K_ret1 rfl rfl () trivial (rfl) Ent.take
  · obtain ⟨hn, hl, he⟩ := encU_ok h1
    refine J_skip ?_
    refine K_then ?_
    refine J_seq ?_
    rw [he]
    refine J_region ?_
    first
      | refine L_v (opv_fieldAddr0 rfl) rfl ?_
      | refine L_v (opv_fieldAddr rfl) rfl ?_
    refine L_v (opv_loadS rfl) rfl ?_
    first
      | refine L_v (opv_fieldAddr0 rfl) rfl ?_
      | refine L_v (opv_fieldAddr rfl) rfl ?_
    refine L_v (opv_loadS rfl) rfl ?_
    refine L_v (opv_move rfl) rfl ?_
    refine L_x rfl (opx_call0 (UD_back x t hx hn hl) rfl rfl rfl) (fun _ _ => ?_)
    refine L_emp ?_
    refine L_v (opv_move rfl) rfl ?_
    refine L_v (opv_extract (v := .agg [.int .u8 x.a0, .int .u8 x.a1, .int .u8 x.a2, .int .u8 x.a3, .int .u8 x.b0, .int .u8 x.b1, .int .u8 x.b2, .int .u8 x.b3, .int .i64 x.f, .int .i64 x.g].toArray) rfl rfl) rfl ?_
    refine L_v (opv_extract rfl rfl) rfl ?_
    refine L_v (opv_extract rfl rfl) rfl ?_
    refine L_x rfl (opx_alloc rfl) (fun b7 _ => ?_)
    refine L_x rfl (opx_store rfl rfl rfl (by simp [Value.oneCell'])) (fun _ _ => ?_)
    refine L_v (opv_assign rfl) rfl ?_
    refine L_v (opv_assign rfl) rfl ?_
    refine L_nil ?_
    refine K_then ?_
    refine J_seq ?_
    refine J_region ?_
    refine L_v (opv_move rfl) rfl ?_
    refine L_v ((opv_eql rfl rfl).bool_t rfl) rfl ?_
    refine L_v (opv_move rfl) rfl ?_
    refine L_gon rfl rfl rfl ?_
    refine L_v (opv_loadS rfl) rfl ?_
    refine L_gon rfl rfl rfl ?_
    refine L_v (opv_loadS rfl) rfl ?_
    refine L_gon rfl rfl rfl ?_
    refine L_v ((opv_eqlF rfl rfl (by simp [Shape, CK.sh]) (by simp [Shape, CK.sh])).bool_t rfl) rfl ?_
    first
      | refine L_v (opv_pick_tt rfl rfl) rfl ?_
      | refine L_v (opv_pick_ff rfl rfl) rfl ?_
      | refine L_v (opv_pick rfl rfl rfl) rfl ?_
    refine L_v (opv_move rfl) rfl ?_
    refine L_gon rfl rfl rfl ?_
    refine L_v (opv_move rfl) rfl ?_
    refine L_gon rfl rfl rfl ?_
    refine L_v (opv_move rfl) rfl ?_
    refine L_gon rfl rfl rfl ?_
    refine L_v ((opv_eqlS rfl rfl).bool_t rfl) rfl ?_
    first
      | refine L_v (opv_pick_tt rfl rfl) rfl ?_
      | refine L_v (opv_pick_ff rfl rfl) rfl ?_
      | refine L_v (opv_pick rfl rfl rfl) rfl ?_
    refine L_v (opv_move rfl) rfl ?_
    refine L_gon rfl rfl rfl ?_
    refine L_v (opv_move rfl) rfl ?_
    refine L_gon rfl rfl rfl ?_
    first
      | refine L_v (opv_lenL rfl) rfl ?_
      | refine L_v (opv_lenS rfl) rfl ?_
    refine L_gon rfl rfl rfl ?_
    refine L_v (opv_move rfl) rfl ?_
    refine L_gon rfl rfl rfl ?_
    first
      | refine L_v (opv_lenL rfl) rfl ?_
      | refine L_v (opv_lenS rfl) rfl ?_
    refine L_gon rfl rfl rfl ?_
    first
      | refine L_v (opv_add64 rfl rfl (by omega)) rfl ?_
      | refine L_v (opv_addS rfl rfl (by omega)) rfl ?_
      | refine L_v (opv_add rfl rfl) rfl ?_
    refine L_gon rfl rfl rfl ?_
    refine L_v ((opv_eql rfl rfl).bool_t (by rw [datag_size]; omega)) rfl ?_
    first
      | refine L_v (opv_pick_tt rfl rfl) rfl ?_
      | refine L_v (opv_pick_ff rfl rfl) rfl ?_
      | refine L_v (opv_pick rfl rfl rfl) rfl ?_
    refine L_v (opv_move rfl) rfl ?_
    refine L_gon rfl rfl rfl ?_
    refine L_x rfl (opx_call0 (uawake_spec) rfl rfl rfl) (fun _ _ => ?_)
    refine L_emp ?_
    first
      | refine L_v (opv_pick_tt rfl rfl) rfl ?_
      | refine L_v (opv_pick_ff rfl rfl) rfl ?_
      | refine L_v (opv_pick rfl rfl rfl) rfl ?_
    refine L_v (opv_assign rfl) rfl ?_
    refine L_nil ?_
    refine K_then ?_
    refine J_ret ?_
    exact K_ret1 rfl rfl () trivial (rfl) Ent.take

end Go.Proofs.Ytdmlcnecildliaa
namespace Go.Proofs.Ytdmlcnecildliaa.udpBack
open Go.ChangeShapes Go.WideShapes Go.ChangeAt Go.RowKit Go.SLA
open Go.ChangeMaps (open_string shut_string)
set_option linter.unusedVariables false
theorem own : ownKnob Try.prog.godebug = none := by kernel_rfl
theorem laidOut : laidOutB Try.prog = true := by kernel_rfl
set_option maxRecDepth 100000 in
theorem lifted (os : Os) (started : os.Started) (H : Type) (enc : TypeId × Value → H) :
    ReturnsInHanded {} Try.checked os 9 .any (Rows.udpBackSpec.pre6 enc Try.prog Try.f9 Rows.udpBackRow.domain false) (Rows.udpBackSpec.post enc Try.prog Try.f9 false true false false) := by
  refine returnsInHanded_of_change_sized (C := Try.checked) own started (by kernel_rfl) Try.func9
    (ChangeSpec.witness6 (enc := enc) (C := Try.checked) false ⟨#[], #[.agg (encEn en0).toArray, .string ByteArray.empty], []⟩ 8 (by kernel_rfl) (by kernel_rfl) (by kernel_rfl) (by kernel_rfl)) ?_
  intro W base args ds gs before hval0 hW hcnd hsz0 _
  have hsz : (DataW.weightsEach Try.prog (Try.f9.params.toList ++ Rows.udpBackSpec.plain.varTypes Try.prog) (ds ++ gs)).all (· ≤ reachBytes) = true := hsz0
  have hval : ∀ (j : Nat) t v, Try.f9.params[j]? = some t → args[j]? = some v → Value.okWide Try.prog W .any base t v := hval0
  have hW' := hW
  obtain ⟨p, q, hA0, hV, rfl, hfz, hnd⟩ := hW
  have hA : DataW.TrodAll enc Try.prog W 0 (fun _ => true) true Try.f9.params.toList args.toList ds p := hA0
  rw [Try.params9] at hA hval hsz
  obtain ⟨v0, vs0, d0, ds0, p0, q0, hargs, rfl, rfl, h0, r0⟩ := trodAll_cons hA
  obtain ⟨v1, vs1, d1, ds1, p1, q1, rfl, rfl, rfl, h1, r1⟩ := trodAll_cons r0
  obtain ⟨rfl, rfl, rfl⟩ := trodAll_nil r1
  obtain rfl : args = #[v0, v1] := by cases args; simp_all
  obtain ⟨rfl, rfl⟩ := trodVars_none hV
  have k0 := h0
  have lt0 : ∀ x ∈ p0, x.block < W.heap.size := by obtain ⟨m, hm⟩ := k0; exact DataW.trod_lt m _ _ _ hm
  obtain ⟨l0, rfl, g0⟩ := open_flat (D := 5) (ks := ksEn) (by kernel_rfl) (by kernel_rfl) (hval 0 29 v0 rfl rfl) h0
  obtain ⟨x0, rfl, ok0⟩ := decEn l0 g0
  have k1 := h1
  have lt1 : ∀ x ∈ p1, x.block < W.heap.size := by obtain ⟨m, hm⟩ := k1; exact DataW.trod_lt m _ _ _ hm
  obtain ⟨a1, rfl, rfl, rfl, y1⟩ := open_string Try.underlying9 (hval 1 9 v1 rfl rfl) h1
  have z1 := sized_string hsz (j := 1) (t := 9) rfl rfl
  rw [Array.length_toList] at z1
  clear hA0 hval0 hsz0 hsz
  refine (FSpec.law (UB_law W x0 a1 ok0)).mono fun e W' ⟨he, bel⟩ => ?_
  subst he
  exact ⟨_, rfl, _, _, _, [], _, [], hW', trodAll_mk1 (shut_bool Try.underlying4 _), (trodAll_cons_mk (Below.trod laidOut (by kernel_rfl) (of_decide_eq_true (by kernel_rfl)) k0 bel lt0) (trodAll_cons_mk (Below.trod laidOut (by kernel_rfl) (of_decide_eq_true (by kernel_rfl)) k1 bel lt1) trodAll_mk0)), rfl, bel.frame _, fun h => by cases h⟩
theorem over : Rows.udpBackRow.holds Try.pinned (OpenSpec.ofChange Rows.udpBackSpec) :=
  OpenClaim.holds_of_wide 9 Try.f9 rfl rfl rfl rfl rfl rfl rfl ⟨rfl, rfl, rfl, rfl, rfl⟩ rfl rfl rfl rfl rfl (by kernel_rfl) Try.func9 (by kernel_rfl)
    (of_decide_eq_true (by kernel_rfl)) (by unfold Func.isWrapper; first | (rw [if_pos (by decide +kernel)]; kernel_rfl) | (rw [if_neg (by decide +kernel)]; exact ⟨rfl, rfl⟩))
    (fun os started H enc _ => lifted os started H enc)
end Go.Proofs.Ytdmlcnecildliaa.udpBack
namespace Go.Proofs.Ytdmlcnecildliaa
theorem udpBack_holds : Rows.UdpBackSaid := udpBack.over
#print axioms udpBack_holds
end Go.Proofs.Ytdmlcnecildliaa
namespace Go.Proofs.Ytdmlcnecildliaa
open Go.SLA
attribute [local irreducible] be usum ones sumT word nextC datag encU decU withSum
theorem UC_big (W : World) (x : En) (t : ByteArray) (k : Int) (h : 2000 < t.size) : FSpec Try.prog 11 #[.agg (encEn x).toArray, .string t, .int .i64 k] (old W) (fun _ : Unit => True) (fun _ => .bool true) (fun _ => old W) := by
  refine FSpec.enter' Try.func11 rfl Try.ntmps11 rfl fun σ F => ?_
  refine J_seq ?_
  refine J_region ?_
  refine L_x rfl (opx_box (l := [.int .u8 x.a0, .int .u8 x.a1, .int .u8 x.a2, .int .u8 x.a3, .int .u8 x.b0, .int .u8 x.b1, .int .u8 x.b2, .int .u8 x.b3, .int .i64 x.f, .int .i64 x.g]) rfl rfl) (fun b3 _ => ?_)
  refine L_v (opv_assign rfl) rfl ?_
  refine L_nil ?_
  refine K_then ?_
  refine J_seq ?_
  refine J_seq ?_
  refine J_region ?_
  refine L_v (opv_move rfl) rfl ?_
  first
    | refine L_v (opv_lenL rfl) rfl ?_
    | refine L_v (opv_lenS rfl) rfl ?_
  refine L_v ((opv_gtr rfl rfl).bool_t (by omega)) rfl ?_
  refine L_nil ?_
  refine K_then ?_
  refine J_cond_true rfl ?_
  refine J_seq ?_
  refine J_region ?_
  refine L_x rfl (opx_call0 (uawake_spec) rfl rfl rfl) (fun _ _ => ?_)
  refine L_emp ?_
  refine L_v (opv_assign rfl) rfl ?_
  refine L_nil ?_
  refine K_then ?_
  refine J_ret ?_
  refine K_then_ret ?_
  exact K_ret1 rfl rfl () trivial (rfl) Ent.take

theorem UC_ok (W : World) (x : En) (t : ByteArray) (k : Int) (hx : okEn x) (ht : t.size ≤ 2000) : FSpec Try.prog 11 #[.agg (encEn x).toArray, .string t, .int .i64 k] (old W) (fun _ : Unit => True) (fun _ => .bool true) (fun _ => old W) := by
  refine FSpec.enter' Try.func11 rfl Try.ntmps11 rfl fun σ F => ?_
  refine J_seq ?_
  refine J_region ?_
  refine L_x rfl (opx_box (l := [.int .u8 x.a0, .int .u8 x.a1, .int .u8 x.a2, .int .u8 x.a3, .int .u8 x.b0, .int .u8 x.b1, .int .u8 x.b2, .int .u8 x.b3, .int .i64 x.f, .int .i64 x.g]) rfl rfl) (fun b3 _ => ?_)
  refine L_v (opv_assign rfl) rfl ?_
  refine L_nil ?_
  refine K_then ?_
  refine J_seq ?_
  refine J_seq ?_
  refine J_region ?_
  refine L_v (opv_move rfl) rfl ?_
  first
    | refine L_v (opv_lenL rfl) rfl ?_
    | refine L_v (opv_lenS rfl) rfl ?_
  refine L_v ((opv_gtr rfl rfl).bool_f (by omega)) rfl ?_
  refine L_nil ?_
  refine K_then ?_
  refine J_cond_false rfl ?_
  refine J_skip ?_
  refine K_then ?_
  refine J_seq ?_
  refine J_region ?_
  refine L_v (opv_loadS rfl) rfl ?_
  refine L_v (opv_move rfl) rfl ?_
  refine L_x rfl (opx_call0 (Encode_any x t hx) rfl rfl rfl) (fun _ _ => ?_)
  refine L_emp ?_
  refine L_v (opv_move rfl) rfl ?_
  refine L_v (opv_extract rfl rfl) rfl ?_
  refine L_v (opv_extract rfl rfl) rfl ?_
  refine L_v (opv_assign rfl) rfl ?_
  refine L_v (opv_assign rfl) rfl ?_
  refine L_nil ?_
  refine K_then ?_
  refine J_seq ?_
  refine J_seq ?_
  refine J_region ?_
  refine L_v (opv_move rfl) rfl ?_
  first
    | refine L_v (opv_neq rfl rfl) rfl ?_
    | refine L_v (opv_neqS rfl rfl) rfl ?_
    | refine L_v (opv_neqNil rfl rfl) rfl ?_
    | refine L_v (opv_neqB rfl rfl) rfl ?_
  refine L_v (opv_move rfl) rfl ?_
  refine L_gf rfl rfl (fun h1 => ?_) (fun h1 => ?_) (fun _ h => by cases h; rfl)
  · refine L_v (opv_move rfl) rfl ?_
    refine L_gf_on h1 rfl rfl ?_
    refine L_v (opv_lss rfl rfl) rfl ?_
    refine L_v (opv_pick_f rfl h1 rfl) rfl ?_
    refine L_v (opv_move rfl) rfl ?_
    refine L_gf rfl rfl (fun h2 => ?_) (fun h2 => ?_) (fun _ h => by cases h; rfl)
    · refine L_v (opv_move rfl) rfl ?_
      refine L_gf_on h2 rfl rfl ?_
      refine L_v (opv_move rfl) rfl ?_
      refine L_gf_on h2 rfl rfl ?_
      first
        | refine L_v (opv_lenL rfl) rfl ?_
        | refine L_v (opv_lenS rfl) rfl ?_
      refine L_gf_on h2 rfl rfl ?_
      refine L_v (opv_geq rfl rfl) rfl ?_
      refine L_v (opv_pick_f rfl h2 rfl) rfl ?_
      refine L_nil ?_
      refine K_then ?_
      refine J_cond rfl (fun h3 => ?_) (fun h3 => ?_)
      · refine J_seq ?_
        refine J_region ?_
        refine L_x rfl (opx_call0 (uawake_spec) rfl rfl rfl) (fun _ _ => ?_)
        refine L_emp ?_
        refine L_v (opv_assign rfl) rfl ?_
        refine L_nil ?_
        refine K_then ?_
        refine J_ret ?_
        refine K_then_ret ?_
        exact K_ret1 rfl rfl () trivial (rfl) Ent.take
      · refine J_skip ?_
        refine K_then ?_
        refine J_seq ?_
        obtain ⟨hn, hl, he⟩ := encU_ok (x := x) (t := t) (by assumption)
        have hds := datag_size x t
        have hes : (encU x t).1.size = (datag x t).size := by rw [he]
        rw [he]
        dsimp only
        have hk1 : ((datag x t).extract 0 (k + 1).toNat).size = (k + 1).toNat := ext_size _ _ _ (by omega)
        refine J_steps (cel b3 [.int .u8 x.a0, .int .u8 x.a1, .int .u8 x.a2, .int .u8 x.a3, .int .u8 x.b0, .int .u8 x.b1, .int .u8 x.b2, .int .u8 x.b3, .int .i64 x.f, .int .i64 x.g] 29) (cel b3 [.int .u8 x.a0, .int .u8 x.a1, .int .u8 x.a2, .int .u8 x.a3, .int .u8 x.b0, .int .u8 x.b1, .int .u8 x.b2, .int .u8 x.b3, .int .i64 x.f, .int .i64 x.g] 29) [] Try.mixed ?_
        first
          | refine R_pure 0 rfl (by kernel_rfl) (by kernel_rfl) (by kernel_rfl) (by kernel_rfl) (.inr ⟨_, Take.eq (A := cel b3 [.int .u8 x.a0, .int .u8 x.a1, .int .u8 x.a2, .int .u8 x.a3, .int .u8 x.b0, .int .u8 x.b1, .int .u8 x.b2, .int .u8 x.b3, .int .i64 x.f, .int .i64 x.g] 29)⟩) (opv_fieldAddr0 rfl) rfl ?_
          | refine R_pure 0 rfl (by kernel_rfl) (by kernel_rfl) (by kernel_rfl) (by kernel_rfl) (.inr ⟨_, Take.eq (A := cel b3 [.int .u8 x.a0, .int .u8 x.a1, .int .u8 x.a2, .int .u8 x.a3, .int .u8 x.b0, .int .u8 x.b1, .int .u8 x.b2, .int .u8 x.b3, .int .i64 x.f, .int .i64 x.g] 29)⟩) (opv_fieldAddr rfl) rfl ?_
        refine R_take 1 rfl (by kernel_rfl) (by kernel_rfl) (by kernel_rfl) (by kernel_rfl) (by kernel_rfl) (opv_loadS rfl) rfl ?_
        first
          | refine R_pure 2 rfl (by kernel_rfl) (by kernel_rfl) (by kernel_rfl) (by kernel_rfl) (.inr ⟨_, Take.eq (A := cel b3 [.int .u8 x.a0, .int .u8 x.a1, .int .u8 x.a2, .int .u8 x.a3, .int .u8 x.b0, .int .u8 x.b1, .int .u8 x.b2, .int .u8 x.b3, .int .i64 x.f, .int .i64 x.g] 29)⟩) (opv_fieldAddr0 rfl) rfl ?_
          | refine R_pure 2 rfl (by kernel_rfl) (by kernel_rfl) (by kernel_rfl) (by kernel_rfl) (.inr ⟨_, Take.eq (A := cel b3 [.int .u8 x.a0, .int .u8 x.a1, .int .u8 x.a2, .int .u8 x.a3, .int .u8 x.b0, .int .u8 x.b1, .int .u8 x.b2, .int .u8 x.b3, .int .i64 x.f, .int .i64 x.g] 29)⟩) (opv_fieldAddr rfl) rfl ?_
        refine R_take 3 rfl (by kernel_rfl) (by kernel_rfl) (by kernel_rfl) (by kernel_rfl) (by kernel_rfl) (opv_loadS rfl) rfl ?_
        refine R_pure 4 rfl (by kernel_rfl) (by kernel_rfl) (by kernel_rfl) (by kernel_rfl) (.inr ⟨_, Take.eq (A := cel b3 [.int .u8 x.a0, .int .u8 x.a1, .int .u8 x.a2, .int .u8 x.a3, .int .u8 x.b0, .int .u8 x.b1, .int .u8 x.b2, .int .u8 x.b3, .int .i64 x.f, .int .i64 x.g] 29)⟩) (opv_move rfl) rfl ?_
        refine R_pure 5 rfl (by kernel_rfl) (by kernel_rfl) (by kernel_rfl) (by kernel_rfl) (.inr ⟨_, Take.eq (A := cel b3 [.int .u8 x.a0, .int .u8 x.a1, .int .u8 x.a2, .int .u8 x.a3, .int .u8 x.b0, .int .u8 x.b1, .int .u8 x.b2, .int .u8 x.b3, .int .i64 x.f, .int .i64 x.g] 29)⟩) (opv_move rfl) rfl ?_
        refine R_pure 6 rfl (by kernel_rfl) (by kernel_rfl) (by kernel_rfl) (by kernel_rfl) (.inr ⟨_, Take.eq (A := cel b3 [.int .u8 x.a0, .int .u8 x.a1, .int .u8 x.a2, .int .u8 x.a3, .int .u8 x.b0, .int .u8 x.b1, .int .u8 x.b2, .int .u8 x.b3, .int .i64 x.f, .int .i64 x.g] 29)⟩) ((opv_sliceShi rfl rfl (by omega)).as (v' := .string ((datag x t).extract 0 k.toNat)) rfl) rfl ?_
        refine R_all [7, 12] (by kernel_rfl) rfl fun i hi => ?_
        simp only [List.mem_cons, List.not_mem_nil, or_false] at hi
        rcases hi with rfl | rfl
        · refine ⟨_, _, _, _, _, rfl, rfl, (opx_call0 (UD_cut x t hx hn hl k.toNat (by omega)) rfl rfl rfl), fun _ _ => ⟨⟨_, Take.eq (A := cel b3 [.int .u8 x.a0, .int .u8 x.a1, .int .u8 x.a2, .int .u8 x.a3, .int .u8 x.b0, .int .u8 x.b1, .int .u8 x.b2, .int .u8 x.b3, .int .i64 x.f, .int .i64 x.g] 29)⟩, .inr ⟨_, Take.eq (A := cel b3 [.int .u8 x.a0, .int .u8 x.a1, .int .u8 x.a2, .int .u8 x.a3, .int .u8 x.b0, .int .u8 x.b1, .int .u8 x.b2, .int .u8 x.b3, .int .i64 x.f, .int .i64 x.g] 29)⟩, ?_⟩⟩
          refine Rg_emp ?_
          refine R_pure 8 rfl (by kernel_rfl) (by kernel_rfl) (by kernel_rfl) (by kernel_rfl) (.inr ⟨_, Take.eq (A := cel b3 [.int .u8 x.a0, .int .u8 x.a1, .int .u8 x.a2, .int .u8 x.a3, .int .u8 x.b0, .int .u8 x.b1, .int .u8 x.b2, .int .u8 x.b3, .int .i64 x.f, .int .i64 x.g] 29)⟩) (opv_move rfl) rfl ?_
          refine R_pure 9 rfl (by kernel_rfl) (by kernel_rfl) (by kernel_rfl) (by kernel_rfl) (.inr ⟨_, Take.eq (A := cel b3 [.int .u8 x.a0, .int .u8 x.a1, .int .u8 x.a2, .int .u8 x.a3, .int .u8 x.b0, .int .u8 x.b1, .int .u8 x.b2, .int .u8 x.b3, .int .i64 x.f, .int .i64 x.g] 29)⟩) (opv_extract (v := .agg [.int .u8 0, .int .u8 0, .int .u8 0, .int .u8 0, .int .u8 0, .int .u8 0, .int .u8 0, .int .u8 0, .int .i64 0, .int .i64 0].toArray) rfl rfl) rfl ?_
          refine R_pure 10 rfl (by kernel_rfl) (by kernel_rfl) (by kernel_rfl) (by kernel_rfl) (.inr ⟨_, Take.eq (A := cel b3 [.int .u8 x.a0, .int .u8 x.a1, .int .u8 x.a2, .int .u8 x.a3, .int .u8 x.b0, .int .u8 x.b1, .int .u8 x.b2, .int .u8 x.b3, .int .i64 x.f, .int .i64 x.g] 29)⟩) (opv_extract rfl rfl) rfl ?_
          refine R_pure 11 rfl (by kernel_rfl) (by kernel_rfl) (by kernel_rfl) (by kernel_rfl) (.inr ⟨_, Take.eq (A := cel b3 [.int .u8 x.a0, .int .u8 x.a1, .int .u8 x.a2, .int .u8 x.a3, .int .u8 x.b0, .int .u8 x.b1, .int .u8 x.b2, .int .u8 x.b3, .int .i64 x.f, .int .i64 x.g] 29)⟩) (opv_extract rfl rfl) rfl ?_
          refine R_only 12 rfl rfl (by kernel_rfl) (opx_alloc rfl) (fun _ _ => ⟨_, Take.eq (A := cel b3 [.int .u8 x.a0, .int .u8 x.a1, .int .u8 x.a2, .int .u8 x.a3, .int .u8 x.b0, .int .u8 x.b1, .int .u8 x.b2, .int .u8 x.b3, .int .i64 x.f, .int .i64 x.g] 29)⟩) (.inr fun _ _ => ⟨_, Take.eq (A := cel b3 [.int .u8 x.a0, .int .u8 x.a1, .int .u8 x.a2, .int .u8 x.a3, .int .u8 x.b0, .int .u8 x.b1, .int .u8 x.b2, .int .u8 x.b3, .int .i64 x.f, .int .i64 x.g] 29)⟩) (fun b9 _ => ?_)
          refine R_only 13 rfl rfl (by kernel_rfl) (opx_store rfl rfl rfl (by simp [Value.oneCell'])) (fun _ _ => ⟨_, Take.eq (A := cel b3 [.int .u8 x.a0, .int .u8 x.a1, .int .u8 x.a2, .int .u8 x.a3, .int .u8 x.b0, .int .u8 x.b1, .int .u8 x.b2, .int .u8 x.b3, .int .i64 x.f, .int .i64 x.g] 29)⟩) (.inr fun _ _ => ⟨_, Take.eq (A := cel b3 [.int .u8 x.a0, .int .u8 x.a1, .int .u8 x.a2, .int .u8 x.a3, .int .u8 x.b0, .int .u8 x.b1, .int .u8 x.b2, .int .u8 x.b3, .int .i64 x.f, .int .i64 x.g] 29)⟩) (fun _ _ => ?_)
          refine R_pure 14 rfl (by kernel_rfl) (by kernel_rfl) (by kernel_rfl) (by kernel_rfl) (.inr ⟨_, Take.eq (A := cel b3 [.int .u8 x.a0, .int .u8 x.a1, .int .u8 x.a2, .int .u8 x.a3, .int .u8 x.b0, .int .u8 x.b1, .int .u8 x.b2, .int .u8 x.b3, .int .i64 x.f, .int .i64 x.g] 29)⟩) (opv_assign rfl) rfl ?_
          refine R_pure 15 rfl (by kernel_rfl) (by kernel_rfl) (by kernel_rfl) (by kernel_rfl) (.inr ⟨_, Take.eq (A := cel b3 [.int .u8 x.a0, .int .u8 x.a1, .int .u8 x.a2, .int .u8 x.a3, .int .u8 x.b0, .int .u8 x.b1, .int .u8 x.b2, .int .u8 x.b3, .int .i64 x.f, .int .i64 x.g] 29)⟩) (opv_assign rfl) rfl ?_
          refine R_done (by kernel_rfl) ?_
          refine K_then ?_
          refine J_seq ?_
          refine J_steps (cel b3 [.int .u8 x.a0, .int .u8 x.a1, .int .u8 x.a2, .int .u8 x.a3, .int .u8 x.b0, .int .u8 x.b1, .int .u8 x.b2, .int .u8 x.b3, .int .i64 x.f, .int .i64 x.g] 29) (cel b3 [.int .u8 x.a0, .int .u8 x.a1, .int .u8 x.a2, .int .u8 x.a3, .int .u8 x.b0, .int .u8 x.b1, .int .u8 x.b2, .int .u8 x.b3, .int .i64 x.f, .int .i64 x.g] 29) [] Try.mixed ?_
          first
            | refine R_pure 0 rfl (by kernel_rfl) (by kernel_rfl) (by kernel_rfl) (by kernel_rfl) (.inr ⟨_, Take.eq (A := cel b3 [.int .u8 x.a0, .int .u8 x.a1, .int .u8 x.a2, .int .u8 x.a3, .int .u8 x.b0, .int .u8 x.b1, .int .u8 x.b2, .int .u8 x.b3, .int .i64 x.f, .int .i64 x.g] 29)⟩) (opv_fieldAddr0 rfl) rfl ?_
            | refine R_pure 0 rfl (by kernel_rfl) (by kernel_rfl) (by kernel_rfl) (by kernel_rfl) (.inr ⟨_, Take.eq (A := cel b3 [.int .u8 x.a0, .int .u8 x.a1, .int .u8 x.a2, .int .u8 x.a3, .int .u8 x.b0, .int .u8 x.b1, .int .u8 x.b2, .int .u8 x.b3, .int .i64 x.f, .int .i64 x.g] 29)⟩) (opv_fieldAddr rfl) rfl ?_
          refine R_take 1 rfl (by kernel_rfl) (by kernel_rfl) (by kernel_rfl) (by kernel_rfl) (by kernel_rfl) (opv_loadS rfl) rfl ?_
          first
            | refine R_pure 2 rfl (by kernel_rfl) (by kernel_rfl) (by kernel_rfl) (by kernel_rfl) (.inr ⟨_, Take.eq (A := cel b3 [.int .u8 x.a0, .int .u8 x.a1, .int .u8 x.a2, .int .u8 x.a3, .int .u8 x.b0, .int .u8 x.b1, .int .u8 x.b2, .int .u8 x.b3, .int .i64 x.f, .int .i64 x.g] 29)⟩) (opv_fieldAddr0 rfl) rfl ?_
            | refine R_pure 2 rfl (by kernel_rfl) (by kernel_rfl) (by kernel_rfl) (by kernel_rfl) (.inr ⟨_, Take.eq (A := cel b3 [.int .u8 x.a0, .int .u8 x.a1, .int .u8 x.a2, .int .u8 x.a3, .int .u8 x.b0, .int .u8 x.b1, .int .u8 x.b2, .int .u8 x.b3, .int .i64 x.f, .int .i64 x.g] 29)⟩) (opv_fieldAddr rfl) rfl ?_
          refine R_take 3 rfl (by kernel_rfl) (by kernel_rfl) (by kernel_rfl) (by kernel_rfl) (by kernel_rfl) (opv_loadS rfl) rfl ?_
          refine R_pure 4 rfl (by kernel_rfl) (by kernel_rfl) (by kernel_rfl) (by kernel_rfl) (.inr ⟨_, Take.eq (A := cel b3 [.int .u8 x.a0, .int .u8 x.a1, .int .u8 x.a2, .int .u8 x.a3, .int .u8 x.b0, .int .u8 x.b1, .int .u8 x.b2, .int .u8 x.b3, .int .i64 x.f, .int .i64 x.g] 29)⟩) (opv_move rfl) rfl ?_
          refine R_pure 5 rfl (by kernel_rfl) (by kernel_rfl) (by kernel_rfl) (by kernel_rfl) (.inr ⟨_, Take.eq (A := cel b3 [.int .u8 x.a0, .int .u8 x.a1, .int .u8 x.a2, .int .u8 x.a3, .int .u8 x.b0, .int .u8 x.b1, .int .u8 x.b2, .int .u8 x.b3, .int .i64 x.f, .int .i64 x.g] 29)⟩) (opv_move rfl) rfl ?_
          refine R_pure 6 rfl (by kernel_rfl) (by kernel_rfl) (by kernel_rfl) (by kernel_rfl) (.inr ⟨_, Take.eq (A := cel b3 [.int .u8 x.a0, .int .u8 x.a1, .int .u8 x.a2, .int .u8 x.a3, .int .u8 x.b0, .int .u8 x.b1, .int .u8 x.b2, .int .u8 x.b3, .int .i64 x.f, .int .i64 x.g] 29)⟩) (opv_move rfl) rfl ?_
          first
            | refine R_pure 7 rfl (by kernel_rfl) (by kernel_rfl) (by kernel_rfl) (by kernel_rfl) (.inr ⟨_, Take.eq (A := cel b3 [.int .u8 x.a0, .int .u8 x.a1, .int .u8 x.a2, .int .u8 x.a3, .int .u8 x.b0, .int .u8 x.b1, .int .u8 x.b2, .int .u8 x.b3, .int .i64 x.f, .int .i64 x.g] 29)⟩) (opv_add64 rfl rfl (by omega)) rfl ?_
            | refine R_pure 7 rfl (by kernel_rfl) (by kernel_rfl) (by kernel_rfl) (by kernel_rfl) (.inr ⟨_, Take.eq (A := cel b3 [.int .u8 x.a0, .int .u8 x.a1, .int .u8 x.a2, .int .u8 x.a3, .int .u8 x.b0, .int .u8 x.b1, .int .u8 x.b2, .int .u8 x.b3, .int .i64 x.f, .int .i64 x.g] 29)⟩) (opv_addS rfl rfl (by omega)) rfl ?_
            | refine R_pure 7 rfl (by kernel_rfl) (by kernel_rfl) (by kernel_rfl) (by kernel_rfl) (.inr ⟨_, Take.eq (A := cel b3 [.int .u8 x.a0, .int .u8 x.a1, .int .u8 x.a2, .int .u8 x.a3, .int .u8 x.b0, .int .u8 x.b1, .int .u8 x.b2, .int .u8 x.b3, .int .i64 x.f, .int .i64 x.g] 29)⟩) (opv_add rfl rfl) rfl ?_
          refine R_pure 8 rfl (by kernel_rfl) (by kernel_rfl) (by kernel_rfl) (by kernel_rfl) (.inr ⟨_, Take.eq (A := cel b3 [.int .u8 x.a0, .int .u8 x.a1, .int .u8 x.a2, .int .u8 x.a3, .int .u8 x.b0, .int .u8 x.b1, .int .u8 x.b2, .int .u8 x.b3, .int .i64 x.f, .int .i64 x.g] 29)⟩) ((opv_sliceShi rfl rfl (by omega)).as (v' := .string ((datag x t).extract 0 (k + 1).toNat)) rfl) rfl ?_
          refine R_pure 9 rfl (by kernel_rfl) (by kernel_rfl) (by kernel_rfl) (by kernel_rfl) (.inr ⟨_, Take.eq (A := cel b3 [.int .u8 x.a0, .int .u8 x.a1, .int .u8 x.a2, .int .u8 x.a3, .int .u8 x.b0, .int .u8 x.b1, .int .u8 x.b2, .int .u8 x.b3, .int .i64 x.f, .int .i64 x.g] 29)⟩) (opv_addS rfl rfl (by rw [hk1]; omega)) rfl ?_
          refine R_all [10, 15] (by kernel_rfl) rfl fun i hi => ?_
          simp only [List.mem_cons, List.not_mem_nil, or_false] at hi
          rcases hi with rfl | rfl
          · refine ⟨_, _, _, _, _, rfl, rfl, (opx_call0 (UD_more x t ((datag x t).extract 0 (k + 1).toNat) hx hn hl (by rw [hk1]; omega) (by rw [hk1]; omega)) rfl rfl rfl), fun _ _ => ⟨⟨_, Take.eq (A := cel b3 [.int .u8 x.a0, .int .u8 x.a1, .int .u8 x.a2, .int .u8 x.a3, .int .u8 x.b0, .int .u8 x.b1, .int .u8 x.b2, .int .u8 x.b3, .int .i64 x.f, .int .i64 x.g] 29)⟩, .inr ⟨_, Take.eq (A := cel b3 [.int .u8 x.a0, .int .u8 x.a1, .int .u8 x.a2, .int .u8 x.a3, .int .u8 x.b0, .int .u8 x.b1, .int .u8 x.b2, .int .u8 x.b3, .int .i64 x.f, .int .i64 x.g] 29)⟩, ?_⟩⟩
            refine Rg_emp ?_
            refine R_pure 11 rfl (by kernel_rfl) (by kernel_rfl) (by kernel_rfl) (by kernel_rfl) (.inr ⟨_, Take.eq (A := cel b3 [.int .u8 x.a0, .int .u8 x.a1, .int .u8 x.a2, .int .u8 x.a3, .int .u8 x.b0, .int .u8 x.b1, .int .u8 x.b2, .int .u8 x.b3, .int .i64 x.f, .int .i64 x.g] 29)⟩) (opv_move rfl) rfl ?_
            refine R_pure 12 rfl (by kernel_rfl) (by kernel_rfl) (by kernel_rfl) (by kernel_rfl) (.inr ⟨_, Take.eq (A := cel b3 [.int .u8 x.a0, .int .u8 x.a1, .int .u8 x.a2, .int .u8 x.a3, .int .u8 x.b0, .int .u8 x.b1, .int .u8 x.b2, .int .u8 x.b3, .int .i64 x.f, .int .i64 x.g] 29)⟩) (opv_extract (v := .agg [.int .u8 0, .int .u8 0, .int .u8 0, .int .u8 0, .int .u8 0, .int .u8 0, .int .u8 0, .int .u8 0, .int .i64 0, .int .i64 0].toArray) rfl rfl) rfl ?_
            refine R_pure 13 rfl (by kernel_rfl) (by kernel_rfl) (by kernel_rfl) (by kernel_rfl) (.inr ⟨_, Take.eq (A := cel b3 [.int .u8 x.a0, .int .u8 x.a1, .int .u8 x.a2, .int .u8 x.a3, .int .u8 x.b0, .int .u8 x.b1, .int .u8 x.b2, .int .u8 x.b3, .int .i64 x.f, .int .i64 x.g] 29)⟩) (opv_extract rfl rfl) rfl ?_
            refine R_pure 14 rfl (by kernel_rfl) (by kernel_rfl) (by kernel_rfl) (by kernel_rfl) (.inr ⟨_, Take.eq (A := cel b3 [.int .u8 x.a0, .int .u8 x.a1, .int .u8 x.a2, .int .u8 x.a3, .int .u8 x.b0, .int .u8 x.b1, .int .u8 x.b2, .int .u8 x.b3, .int .i64 x.f, .int .i64 x.g] 29)⟩) (opv_extract rfl rfl) rfl ?_
            refine R_only 15 rfl rfl (by kernel_rfl) (opx_alloc rfl) (fun _ _ => ⟨_, Take.eq (A := cel b3 [.int .u8 x.a0, .int .u8 x.a1, .int .u8 x.a2, .int .u8 x.a3, .int .u8 x.b0, .int .u8 x.b1, .int .u8 x.b2, .int .u8 x.b3, .int .i64 x.f, .int .i64 x.g] 29)⟩) (.inr fun _ _ => ⟨_, Take.eq (A := cel b3 [.int .u8 x.a0, .int .u8 x.a1, .int .u8 x.a2, .int .u8 x.a3, .int .u8 x.b0, .int .u8 x.b1, .int .u8 x.b2, .int .u8 x.b3, .int .i64 x.f, .int .i64 x.g] 29)⟩) (fun b12 _ => ?_)
            refine R_only 16 rfl rfl (by kernel_rfl) (opx_store rfl rfl rfl (by simp [Value.oneCell'])) (fun _ _ => ⟨_, Take.eq (A := cel b3 [.int .u8 x.a0, .int .u8 x.a1, .int .u8 x.a2, .int .u8 x.a3, .int .u8 x.b0, .int .u8 x.b1, .int .u8 x.b2, .int .u8 x.b3, .int .i64 x.f, .int .i64 x.g] 29)⟩) (.inr fun _ _ => ⟨_, Take.eq (A := cel b3 [.int .u8 x.a0, .int .u8 x.a1, .int .u8 x.a2, .int .u8 x.a3, .int .u8 x.b0, .int .u8 x.b1, .int .u8 x.b2, .int .u8 x.b3, .int .i64 x.f, .int .i64 x.g] 29)⟩) (fun _ _ => ?_)
            refine R_pure 17 rfl (by kernel_rfl) (by kernel_rfl) (by kernel_rfl) (by kernel_rfl) (.inr ⟨_, Take.eq (A := cel b3 [.int .u8 x.a0, .int .u8 x.a1, .int .u8 x.a2, .int .u8 x.a3, .int .u8 x.b0, .int .u8 x.b1, .int .u8 x.b2, .int .u8 x.b3, .int .i64 x.f, .int .i64 x.g] 29)⟩) (opv_assign rfl) rfl ?_
            refine R_pure 18 rfl (by kernel_rfl) (by kernel_rfl) (by kernel_rfl) (by kernel_rfl) (.inr ⟨_, Take.eq (A := cel b3 [.int .u8 x.a0, .int .u8 x.a1, .int .u8 x.a2, .int .u8 x.a3, .int .u8 x.b0, .int .u8 x.b1, .int .u8 x.b2, .int .u8 x.b3, .int .i64 x.f, .int .i64 x.g] 29)⟩) (opv_assign rfl) rfl ?_
            refine R_done (by kernel_rfl) ?_
            refine K_then ?_
            refine J_seq ?_
            refine J_region ?_
            refine L_v (opv_move rfl) rfl ?_
            refine L_v ((opv_eql rfl rfl).bool_t rfl) rfl ?_
            refine L_v (opv_move rfl) rfl ?_
            refine L_gon rfl rfl rfl ?_
            refine L_v (opv_move rfl) rfl ?_
            refine L_gon rfl rfl rfl ?_
            refine L_v ((opv_eql rfl rfl).bool_t rfl) rfl ?_
            first
              | refine L_v (opv_pick_tt rfl rfl) rfl ?_
              | refine L_v (opv_pick_ff rfl rfl) rfl ?_
              | refine L_v (opv_pick rfl rfl rfl) rfl ?_
            refine L_v (opv_move rfl) rfl ?_
            refine L_gon rfl rfl rfl ?_
            refine L_x rfl (opx_call0 (uawake_spec) rfl rfl rfl) (fun _ _ => ?_)
            refine L_emp ?_
            first
              | refine L_v (opv_pick_tt rfl rfl) rfl ?_
              | refine L_v (opv_pick_ff rfl rfl) rfl ?_
              | refine L_v (opv_pick rfl rfl rfl) rfl ?_
            refine L_v (opv_assign rfl) rfl ?_
            refine L_nil ?_
            refine K_then ?_
            refine J_ret ?_
            exact K_ret1 rfl rfl () trivial (rfl) Ent.take
          · refine ⟨_, _, _, _, _, rfl, rfl, (opx_alloc rfl), fun b12 _ => ⟨⟨_, Take.eq (A := cel b3 [.int .u8 x.a0, .int .u8 x.a1, .int .u8 x.a2, .int .u8 x.a3, .int .u8 x.b0, .int .u8 x.b1, .int .u8 x.b2, .int .u8 x.b3, .int .i64 x.f, .int .i64 x.g] 29)⟩, .inr ⟨_, Take.eq (A := cel b3 [.int .u8 x.a0, .int .u8 x.a1, .int .u8 x.a2, .int .u8 x.a3, .int .u8 x.b0, .int .u8 x.b1, .int .u8 x.b2, .int .u8 x.b3, .int .i64 x.f, .int .i64 x.g] 29)⟩, ?_⟩⟩
            refine R_only 10 rfl rfl (by kernel_rfl) (opx_call0 (UD_more x t ((datag x t).extract 0 (k + 1).toNat) hx hn hl (by rw [hk1]; omega) (by rw [hk1]; omega)) rfl rfl rfl) (fun _ _ => ⟨_, Take.eq (A := cel b3 [.int .u8 x.a0, .int .u8 x.a1, .int .u8 x.a2, .int .u8 x.a3, .int .u8 x.b0, .int .u8 x.b1, .int .u8 x.b2, .int .u8 x.b3, .int .i64 x.f, .int .i64 x.g] 29)⟩) (.inr fun _ _ => ⟨_, Take.eq (A := cel b3 [.int .u8 x.a0, .int .u8 x.a1, .int .u8 x.a2, .int .u8 x.a3, .int .u8 x.b0, .int .u8 x.b1, .int .u8 x.b2, .int .u8 x.b3, .int .i64 x.f, .int .i64 x.g] 29)⟩) (fun _ _ => ?_)
            refine Rg_emp ?_
            refine R_pure 11 rfl (by kernel_rfl) (by kernel_rfl) (by kernel_rfl) (by kernel_rfl) (.inr ⟨_, Take.eq (A := cel b3 [.int .u8 x.a0, .int .u8 x.a1, .int .u8 x.a2, .int .u8 x.a3, .int .u8 x.b0, .int .u8 x.b1, .int .u8 x.b2, .int .u8 x.b3, .int .i64 x.f, .int .i64 x.g] 29)⟩) (opv_move rfl) rfl ?_
            refine R_pure 12 rfl (by kernel_rfl) (by kernel_rfl) (by kernel_rfl) (by kernel_rfl) (.inr ⟨_, Take.eq (A := cel b3 [.int .u8 x.a0, .int .u8 x.a1, .int .u8 x.a2, .int .u8 x.a3, .int .u8 x.b0, .int .u8 x.b1, .int .u8 x.b2, .int .u8 x.b3, .int .i64 x.f, .int .i64 x.g] 29)⟩) (opv_extract (v := .agg [.int .u8 0, .int .u8 0, .int .u8 0, .int .u8 0, .int .u8 0, .int .u8 0, .int .u8 0, .int .u8 0, .int .i64 0, .int .i64 0].toArray) rfl rfl) rfl ?_
            refine R_pure 13 rfl (by kernel_rfl) (by kernel_rfl) (by kernel_rfl) (by kernel_rfl) (.inr ⟨_, Take.eq (A := cel b3 [.int .u8 x.a0, .int .u8 x.a1, .int .u8 x.a2, .int .u8 x.a3, .int .u8 x.b0, .int .u8 x.b1, .int .u8 x.b2, .int .u8 x.b3, .int .i64 x.f, .int .i64 x.g] 29)⟩) (opv_extract rfl rfl) rfl ?_
            refine R_pure 14 rfl (by kernel_rfl) (by kernel_rfl) (by kernel_rfl) (by kernel_rfl) (.inr ⟨_, Take.eq (A := cel b3 [.int .u8 x.a0, .int .u8 x.a1, .int .u8 x.a2, .int .u8 x.a3, .int .u8 x.b0, .int .u8 x.b1, .int .u8 x.b2, .int .u8 x.b3, .int .i64 x.f, .int .i64 x.g] 29)⟩) (opv_extract rfl rfl) rfl ?_
            refine R_only 16 rfl rfl (by kernel_rfl) (opx_store rfl rfl rfl (by simp [Value.oneCell'])) (fun _ _ => ⟨_, Take.eq (A := cel b3 [.int .u8 x.a0, .int .u8 x.a1, .int .u8 x.a2, .int .u8 x.a3, .int .u8 x.b0, .int .u8 x.b1, .int .u8 x.b2, .int .u8 x.b3, .int .i64 x.f, .int .i64 x.g] 29)⟩) (.inr fun _ _ => ⟨_, Take.eq (A := cel b3 [.int .u8 x.a0, .int .u8 x.a1, .int .u8 x.a2, .int .u8 x.a3, .int .u8 x.b0, .int .u8 x.b1, .int .u8 x.b2, .int .u8 x.b3, .int .i64 x.f, .int .i64 x.g] 29)⟩) (fun _ _ => ?_)
            refine R_pure 17 rfl (by kernel_rfl) (by kernel_rfl) (by kernel_rfl) (by kernel_rfl) (.inr ⟨_, Take.eq (A := cel b3 [.int .u8 x.a0, .int .u8 x.a1, .int .u8 x.a2, .int .u8 x.a3, .int .u8 x.b0, .int .u8 x.b1, .int .u8 x.b2, .int .u8 x.b3, .int .i64 x.f, .int .i64 x.g] 29)⟩) (opv_assign rfl) rfl ?_
            refine R_pure 18 rfl (by kernel_rfl) (by kernel_rfl) (by kernel_rfl) (by kernel_rfl) (.inr ⟨_, Take.eq (A := cel b3 [.int .u8 x.a0, .int .u8 x.a1, .int .u8 x.a2, .int .u8 x.a3, .int .u8 x.b0, .int .u8 x.b1, .int .u8 x.b2, .int .u8 x.b3, .int .i64 x.f, .int .i64 x.g] 29)⟩) (opv_assign rfl) rfl ?_
            refine R_done (by kernel_rfl) ?_
            refine K_then ?_
            refine J_seq ?_
            refine J_region ?_
            refine L_v (opv_move rfl) rfl ?_
            refine L_v ((opv_eql rfl rfl).bool_t rfl) rfl ?_
            refine L_v (opv_move rfl) rfl ?_
            refine L_gon rfl rfl rfl ?_
            refine L_v (opv_move rfl) rfl ?_
            refine L_gon rfl rfl rfl ?_
            refine L_v ((opv_eql rfl rfl).bool_t rfl) rfl ?_
            first
              | refine L_v (opv_pick_tt rfl rfl) rfl ?_
              | refine L_v (opv_pick_ff rfl rfl) rfl ?_
              | refine L_v (opv_pick rfl rfl rfl) rfl ?_
            refine L_v (opv_move rfl) rfl ?_
            refine L_gon rfl rfl rfl ?_
            refine L_x rfl (opx_call0 (uawake_spec) rfl rfl rfl) (fun _ _ => ?_)
            refine L_emp ?_
            first
              | refine L_v (opv_pick_tt rfl rfl) rfl ?_
              | refine L_v (opv_pick_ff rfl rfl) rfl ?_
              | refine L_v (opv_pick rfl rfl rfl) rfl ?_
            refine L_v (opv_assign rfl) rfl ?_
            refine L_nil ?_
            refine K_then ?_
            refine J_ret ?_
            exact K_ret1 rfl rfl () trivial (rfl) Ent.take
        · refine ⟨_, _, _, _, _, rfl, rfl, (opx_alloc rfl), fun b9 _ => ⟨⟨_, Take.eq (A := cel b3 [.int .u8 x.a0, .int .u8 x.a1, .int .u8 x.a2, .int .u8 x.a3, .int .u8 x.b0, .int .u8 x.b1, .int .u8 x.b2, .int .u8 x.b3, .int .i64 x.f, .int .i64 x.g] 29)⟩, .inr ⟨_, Take.eq (A := cel b3 [.int .u8 x.a0, .int .u8 x.a1, .int .u8 x.a2, .int .u8 x.a3, .int .u8 x.b0, .int .u8 x.b1, .int .u8 x.b2, .int .u8 x.b3, .int .i64 x.f, .int .i64 x.g] 29)⟩, ?_⟩⟩
          refine R_only 7 rfl rfl (by kernel_rfl) (opx_call0 (UD_cut x t hx hn hl k.toNat (by omega)) rfl rfl rfl) (fun _ _ => ⟨_, Take.eq (A := cel b3 [.int .u8 x.a0, .int .u8 x.a1, .int .u8 x.a2, .int .u8 x.a3, .int .u8 x.b0, .int .u8 x.b1, .int .u8 x.b2, .int .u8 x.b3, .int .i64 x.f, .int .i64 x.g] 29)⟩) (.inr fun _ _ => ⟨_, Take.eq (A := cel b3 [.int .u8 x.a0, .int .u8 x.a1, .int .u8 x.a2, .int .u8 x.a3, .int .u8 x.b0, .int .u8 x.b1, .int .u8 x.b2, .int .u8 x.b3, .int .i64 x.f, .int .i64 x.g] 29)⟩) (fun _ _ => ?_)
          refine Rg_emp ?_
          refine R_pure 8 rfl (by kernel_rfl) (by kernel_rfl) (by kernel_rfl) (by kernel_rfl) (.inr ⟨_, Take.eq (A := cel b3 [.int .u8 x.a0, .int .u8 x.a1, .int .u8 x.a2, .int .u8 x.a3, .int .u8 x.b0, .int .u8 x.b1, .int .u8 x.b2, .int .u8 x.b3, .int .i64 x.f, .int .i64 x.g] 29)⟩) (opv_move rfl) rfl ?_
          refine R_pure 9 rfl (by kernel_rfl) (by kernel_rfl) (by kernel_rfl) (by kernel_rfl) (.inr ⟨_, Take.eq (A := cel b3 [.int .u8 x.a0, .int .u8 x.a1, .int .u8 x.a2, .int .u8 x.a3, .int .u8 x.b0, .int .u8 x.b1, .int .u8 x.b2, .int .u8 x.b3, .int .i64 x.f, .int .i64 x.g] 29)⟩) (opv_extract (v := .agg [.int .u8 0, .int .u8 0, .int .u8 0, .int .u8 0, .int .u8 0, .int .u8 0, .int .u8 0, .int .u8 0, .int .i64 0, .int .i64 0].toArray) rfl rfl) rfl ?_
          refine R_pure 10 rfl (by kernel_rfl) (by kernel_rfl) (by kernel_rfl) (by kernel_rfl) (.inr ⟨_, Take.eq (A := cel b3 [.int .u8 x.a0, .int .u8 x.a1, .int .u8 x.a2, .int .u8 x.a3, .int .u8 x.b0, .int .u8 x.b1, .int .u8 x.b2, .int .u8 x.b3, .int .i64 x.f, .int .i64 x.g] 29)⟩) (opv_extract rfl rfl) rfl ?_
          refine R_pure 11 rfl (by kernel_rfl) (by kernel_rfl) (by kernel_rfl) (by kernel_rfl) (.inr ⟨_, Take.eq (A := cel b3 [.int .u8 x.a0, .int .u8 x.a1, .int .u8 x.a2, .int .u8 x.a3, .int .u8 x.b0, .int .u8 x.b1, .int .u8 x.b2, .int .u8 x.b3, .int .i64 x.f, .int .i64 x.g] 29)⟩) (opv_extract rfl rfl) rfl ?_
          refine R_only 13 rfl rfl (by kernel_rfl) (opx_store rfl rfl rfl (by simp [Value.oneCell'])) (fun _ _ => ⟨_, Take.eq (A := cel b3 [.int .u8 x.a0, .int .u8 x.a1, .int .u8 x.a2, .int .u8 x.a3, .int .u8 x.b0, .int .u8 x.b1, .int .u8 x.b2, .int .u8 x.b3, .int .i64 x.f, .int .i64 x.g] 29)⟩) (.inr fun _ _ => ⟨_, Take.eq (A := cel b3 [.int .u8 x.a0, .int .u8 x.a1, .int .u8 x.a2, .int .u8 x.a3, .int .u8 x.b0, .int .u8 x.b1, .int .u8 x.b2, .int .u8 x.b3, .int .i64 x.f, .int .i64 x.g] 29)⟩) (fun _ _ => ?_)
          refine R_pure 14 rfl (by kernel_rfl) (by kernel_rfl) (by kernel_rfl) (by kernel_rfl) (.inr ⟨_, Take.eq (A := cel b3 [.int .u8 x.a0, .int .u8 x.a1, .int .u8 x.a2, .int .u8 x.a3, .int .u8 x.b0, .int .u8 x.b1, .int .u8 x.b2, .int .u8 x.b3, .int .i64 x.f, .int .i64 x.g] 29)⟩) (opv_assign rfl) rfl ?_
          refine R_pure 15 rfl (by kernel_rfl) (by kernel_rfl) (by kernel_rfl) (by kernel_rfl) (.inr ⟨_, Take.eq (A := cel b3 [.int .u8 x.a0, .int .u8 x.a1, .int .u8 x.a2, .int .u8 x.a3, .int .u8 x.b0, .int .u8 x.b1, .int .u8 x.b2, .int .u8 x.b3, .int .i64 x.f, .int .i64 x.g] 29)⟩) (opv_assign rfl) rfl ?_
          refine R_done (by kernel_rfl) ?_
          refine K_then ?_
          refine J_seq ?_
          refine J_steps (cel b3 [.int .u8 x.a0, .int .u8 x.a1, .int .u8 x.a2, .int .u8 x.a3, .int .u8 x.b0, .int .u8 x.b1, .int .u8 x.b2, .int .u8 x.b3, .int .i64 x.f, .int .i64 x.g] 29) (cel b3 [.int .u8 x.a0, .int .u8 x.a1, .int .u8 x.a2, .int .u8 x.a3, .int .u8 x.b0, .int .u8 x.b1, .int .u8 x.b2, .int .u8 x.b3, .int .i64 x.f, .int .i64 x.g] 29) [] Try.mixed ?_
          first
            | refine R_pure 0 rfl (by kernel_rfl) (by kernel_rfl) (by kernel_rfl) (by kernel_rfl) (.inr ⟨_, Take.eq (A := cel b3 [.int .u8 x.a0, .int .u8 x.a1, .int .u8 x.a2, .int .u8 x.a3, .int .u8 x.b0, .int .u8 x.b1, .int .u8 x.b2, .int .u8 x.b3, .int .i64 x.f, .int .i64 x.g] 29)⟩) (opv_fieldAddr0 rfl) rfl ?_
            | refine R_pure 0 rfl (by kernel_rfl) (by kernel_rfl) (by kernel_rfl) (by kernel_rfl) (.inr ⟨_, Take.eq (A := cel b3 [.int .u8 x.a0, .int .u8 x.a1, .int .u8 x.a2, .int .u8 x.a3, .int .u8 x.b0, .int .u8 x.b1, .int .u8 x.b2, .int .u8 x.b3, .int .i64 x.f, .int .i64 x.g] 29)⟩) (opv_fieldAddr rfl) rfl ?_
          refine R_take 1 rfl (by kernel_rfl) (by kernel_rfl) (by kernel_rfl) (by kernel_rfl) (by kernel_rfl) (opv_loadS rfl) rfl ?_
          first
            | refine R_pure 2 rfl (by kernel_rfl) (by kernel_rfl) (by kernel_rfl) (by kernel_rfl) (.inr ⟨_, Take.eq (A := cel b3 [.int .u8 x.a0, .int .u8 x.a1, .int .u8 x.a2, .int .u8 x.a3, .int .u8 x.b0, .int .u8 x.b1, .int .u8 x.b2, .int .u8 x.b3, .int .i64 x.f, .int .i64 x.g] 29)⟩) (opv_fieldAddr0 rfl) rfl ?_
            | refine R_pure 2 rfl (by kernel_rfl) (by kernel_rfl) (by kernel_rfl) (by kernel_rfl) (.inr ⟨_, Take.eq (A := cel b3 [.int .u8 x.a0, .int .u8 x.a1, .int .u8 x.a2, .int .u8 x.a3, .int .u8 x.b0, .int .u8 x.b1, .int .u8 x.b2, .int .u8 x.b3, .int .i64 x.f, .int .i64 x.g] 29)⟩) (opv_fieldAddr rfl) rfl ?_
          refine R_take 3 rfl (by kernel_rfl) (by kernel_rfl) (by kernel_rfl) (by kernel_rfl) (by kernel_rfl) (opv_loadS rfl) rfl ?_
          refine R_pure 4 rfl (by kernel_rfl) (by kernel_rfl) (by kernel_rfl) (by kernel_rfl) (.inr ⟨_, Take.eq (A := cel b3 [.int .u8 x.a0, .int .u8 x.a1, .int .u8 x.a2, .int .u8 x.a3, .int .u8 x.b0, .int .u8 x.b1, .int .u8 x.b2, .int .u8 x.b3, .int .i64 x.f, .int .i64 x.g] 29)⟩) (opv_move rfl) rfl ?_
          refine R_pure 5 rfl (by kernel_rfl) (by kernel_rfl) (by kernel_rfl) (by kernel_rfl) (.inr ⟨_, Take.eq (A := cel b3 [.int .u8 x.a0, .int .u8 x.a1, .int .u8 x.a2, .int .u8 x.a3, .int .u8 x.b0, .int .u8 x.b1, .int .u8 x.b2, .int .u8 x.b3, .int .i64 x.f, .int .i64 x.g] 29)⟩) (opv_move rfl) rfl ?_
          refine R_pure 6 rfl (by kernel_rfl) (by kernel_rfl) (by kernel_rfl) (by kernel_rfl) (.inr ⟨_, Take.eq (A := cel b3 [.int .u8 x.a0, .int .u8 x.a1, .int .u8 x.a2, .int .u8 x.a3, .int .u8 x.b0, .int .u8 x.b1, .int .u8 x.b2, .int .u8 x.b3, .int .i64 x.f, .int .i64 x.g] 29)⟩) (opv_move rfl) rfl ?_
          first
            | refine R_pure 7 rfl (by kernel_rfl) (by kernel_rfl) (by kernel_rfl) (by kernel_rfl) (.inr ⟨_, Take.eq (A := cel b3 [.int .u8 x.a0, .int .u8 x.a1, .int .u8 x.a2, .int .u8 x.a3, .int .u8 x.b0, .int .u8 x.b1, .int .u8 x.b2, .int .u8 x.b3, .int .i64 x.f, .int .i64 x.g] 29)⟩) (opv_add64 rfl rfl (by omega)) rfl ?_
            | refine R_pure 7 rfl (by kernel_rfl) (by kernel_rfl) (by kernel_rfl) (by kernel_rfl) (.inr ⟨_, Take.eq (A := cel b3 [.int .u8 x.a0, .int .u8 x.a1, .int .u8 x.a2, .int .u8 x.a3, .int .u8 x.b0, .int .u8 x.b1, .int .u8 x.b2, .int .u8 x.b3, .int .i64 x.f, .int .i64 x.g] 29)⟩) (opv_addS rfl rfl (by omega)) rfl ?_
            | refine R_pure 7 rfl (by kernel_rfl) (by kernel_rfl) (by kernel_rfl) (by kernel_rfl) (.inr ⟨_, Take.eq (A := cel b3 [.int .u8 x.a0, .int .u8 x.a1, .int .u8 x.a2, .int .u8 x.a3, .int .u8 x.b0, .int .u8 x.b1, .int .u8 x.b2, .int .u8 x.b3, .int .i64 x.f, .int .i64 x.g] 29)⟩) (opv_add rfl rfl) rfl ?_
          refine R_pure 8 rfl (by kernel_rfl) (by kernel_rfl) (by kernel_rfl) (by kernel_rfl) (.inr ⟨_, Take.eq (A := cel b3 [.int .u8 x.a0, .int .u8 x.a1, .int .u8 x.a2, .int .u8 x.a3, .int .u8 x.b0, .int .u8 x.b1, .int .u8 x.b2, .int .u8 x.b3, .int .i64 x.f, .int .i64 x.g] 29)⟩) ((opv_sliceShi rfl rfl (by omega)).as (v' := .string ((datag x t).extract 0 (k + 1).toNat)) rfl) rfl ?_
          refine R_pure 9 rfl (by kernel_rfl) (by kernel_rfl) (by kernel_rfl) (by kernel_rfl) (.inr ⟨_, Take.eq (A := cel b3 [.int .u8 x.a0, .int .u8 x.a1, .int .u8 x.a2, .int .u8 x.a3, .int .u8 x.b0, .int .u8 x.b1, .int .u8 x.b2, .int .u8 x.b3, .int .i64 x.f, .int .i64 x.g] 29)⟩) (opv_addS rfl rfl (by rw [hk1]; omega)) rfl ?_
          refine R_all [10, 15] (by kernel_rfl) rfl fun i hi => ?_
          simp only [List.mem_cons, List.not_mem_nil, or_false] at hi
          rcases hi with rfl | rfl
          · refine ⟨_, _, _, _, _, rfl, rfl, (opx_call0 (UD_more x t ((datag x t).extract 0 (k + 1).toNat) hx hn hl (by rw [hk1]; omega) (by rw [hk1]; omega)) rfl rfl rfl), fun _ _ => ⟨⟨_, Take.eq (A := cel b3 [.int .u8 x.a0, .int .u8 x.a1, .int .u8 x.a2, .int .u8 x.a3, .int .u8 x.b0, .int .u8 x.b1, .int .u8 x.b2, .int .u8 x.b3, .int .i64 x.f, .int .i64 x.g] 29)⟩, .inr ⟨_, Take.eq (A := cel b3 [.int .u8 x.a0, .int .u8 x.a1, .int .u8 x.a2, .int .u8 x.a3, .int .u8 x.b0, .int .u8 x.b1, .int .u8 x.b2, .int .u8 x.b3, .int .i64 x.f, .int .i64 x.g] 29)⟩, ?_⟩⟩
            refine Rg_emp ?_
            refine R_pure 11 rfl (by kernel_rfl) (by kernel_rfl) (by kernel_rfl) (by kernel_rfl) (.inr ⟨_, Take.eq (A := cel b3 [.int .u8 x.a0, .int .u8 x.a1, .int .u8 x.a2, .int .u8 x.a3, .int .u8 x.b0, .int .u8 x.b1, .int .u8 x.b2, .int .u8 x.b3, .int .i64 x.f, .int .i64 x.g] 29)⟩) (opv_move rfl) rfl ?_
            refine R_pure 12 rfl (by kernel_rfl) (by kernel_rfl) (by kernel_rfl) (by kernel_rfl) (.inr ⟨_, Take.eq (A := cel b3 [.int .u8 x.a0, .int .u8 x.a1, .int .u8 x.a2, .int .u8 x.a3, .int .u8 x.b0, .int .u8 x.b1, .int .u8 x.b2, .int .u8 x.b3, .int .i64 x.f, .int .i64 x.g] 29)⟩) (opv_extract (v := .agg [.int .u8 0, .int .u8 0, .int .u8 0, .int .u8 0, .int .u8 0, .int .u8 0, .int .u8 0, .int .u8 0, .int .i64 0, .int .i64 0].toArray) rfl rfl) rfl ?_
            refine R_pure 13 rfl (by kernel_rfl) (by kernel_rfl) (by kernel_rfl) (by kernel_rfl) (.inr ⟨_, Take.eq (A := cel b3 [.int .u8 x.a0, .int .u8 x.a1, .int .u8 x.a2, .int .u8 x.a3, .int .u8 x.b0, .int .u8 x.b1, .int .u8 x.b2, .int .u8 x.b3, .int .i64 x.f, .int .i64 x.g] 29)⟩) (opv_extract rfl rfl) rfl ?_
            refine R_pure 14 rfl (by kernel_rfl) (by kernel_rfl) (by kernel_rfl) (by kernel_rfl) (.inr ⟨_, Take.eq (A := cel b3 [.int .u8 x.a0, .int .u8 x.a1, .int .u8 x.a2, .int .u8 x.a3, .int .u8 x.b0, .int .u8 x.b1, .int .u8 x.b2, .int .u8 x.b3, .int .i64 x.f, .int .i64 x.g] 29)⟩) (opv_extract rfl rfl) rfl ?_
            refine R_only 15 rfl rfl (by kernel_rfl) (opx_alloc rfl) (fun _ _ => ⟨_, Take.eq (A := cel b3 [.int .u8 x.a0, .int .u8 x.a1, .int .u8 x.a2, .int .u8 x.a3, .int .u8 x.b0, .int .u8 x.b1, .int .u8 x.b2, .int .u8 x.b3, .int .i64 x.f, .int .i64 x.g] 29)⟩) (.inr fun _ _ => ⟨_, Take.eq (A := cel b3 [.int .u8 x.a0, .int .u8 x.a1, .int .u8 x.a2, .int .u8 x.a3, .int .u8 x.b0, .int .u8 x.b1, .int .u8 x.b2, .int .u8 x.b3, .int .i64 x.f, .int .i64 x.g] 29)⟩) (fun b12 _ => ?_)
            refine R_only 16 rfl rfl (by kernel_rfl) (opx_store rfl rfl rfl (by simp [Value.oneCell'])) (fun _ _ => ⟨_, Take.eq (A := cel b3 [.int .u8 x.a0, .int .u8 x.a1, .int .u8 x.a2, .int .u8 x.a3, .int .u8 x.b0, .int .u8 x.b1, .int .u8 x.b2, .int .u8 x.b3, .int .i64 x.f, .int .i64 x.g] 29)⟩) (.inr fun _ _ => ⟨_, Take.eq (A := cel b3 [.int .u8 x.a0, .int .u8 x.a1, .int .u8 x.a2, .int .u8 x.a3, .int .u8 x.b0, .int .u8 x.b1, .int .u8 x.b2, .int .u8 x.b3, .int .i64 x.f, .int .i64 x.g] 29)⟩) (fun _ _ => ?_)
            refine R_pure 17 rfl (by kernel_rfl) (by kernel_rfl) (by kernel_rfl) (by kernel_rfl) (.inr ⟨_, Take.eq (A := cel b3 [.int .u8 x.a0, .int .u8 x.a1, .int .u8 x.a2, .int .u8 x.a3, .int .u8 x.b0, .int .u8 x.b1, .int .u8 x.b2, .int .u8 x.b3, .int .i64 x.f, .int .i64 x.g] 29)⟩) (opv_assign rfl) rfl ?_
            refine R_pure 18 rfl (by kernel_rfl) (by kernel_rfl) (by kernel_rfl) (by kernel_rfl) (.inr ⟨_, Take.eq (A := cel b3 [.int .u8 x.a0, .int .u8 x.a1, .int .u8 x.a2, .int .u8 x.a3, .int .u8 x.b0, .int .u8 x.b1, .int .u8 x.b2, .int .u8 x.b3, .int .i64 x.f, .int .i64 x.g] 29)⟩) (opv_assign rfl) rfl ?_
            refine R_done (by kernel_rfl) ?_
            refine K_then ?_
            refine J_seq ?_
            refine J_region ?_
            refine L_v (opv_move rfl) rfl ?_
            refine L_v ((opv_eql rfl rfl).bool_t rfl) rfl ?_
            refine L_v (opv_move rfl) rfl ?_
            refine L_gon rfl rfl rfl ?_
            refine L_v (opv_move rfl) rfl ?_
            refine L_gon rfl rfl rfl ?_
            refine L_v ((opv_eql rfl rfl).bool_t rfl) rfl ?_
            first
              | refine L_v (opv_pick_tt rfl rfl) rfl ?_
              | refine L_v (opv_pick_ff rfl rfl) rfl ?_
              | refine L_v (opv_pick rfl rfl rfl) rfl ?_
            refine L_v (opv_move rfl) rfl ?_
            refine L_gon rfl rfl rfl ?_
            refine L_x rfl (opx_call0 (uawake_spec) rfl rfl rfl) (fun _ _ => ?_)
            refine L_emp ?_
            first
              | refine L_v (opv_pick_tt rfl rfl) rfl ?_
              | refine L_v (opv_pick_ff rfl rfl) rfl ?_
              | refine L_v (opv_pick rfl rfl rfl) rfl ?_
            refine L_v (opv_assign rfl) rfl ?_
            refine L_nil ?_
            refine K_then ?_
            refine J_ret ?_
            exact K_ret1 rfl rfl () trivial (rfl) Ent.take
          · refine ⟨_, _, _, _, _, rfl, rfl, (opx_alloc rfl), fun b12 _ => ⟨⟨_, Take.eq (A := cel b3 [.int .u8 x.a0, .int .u8 x.a1, .int .u8 x.a2, .int .u8 x.a3, .int .u8 x.b0, .int .u8 x.b1, .int .u8 x.b2, .int .u8 x.b3, .int .i64 x.f, .int .i64 x.g] 29)⟩, .inr ⟨_, Take.eq (A := cel b3 [.int .u8 x.a0, .int .u8 x.a1, .int .u8 x.a2, .int .u8 x.a3, .int .u8 x.b0, .int .u8 x.b1, .int .u8 x.b2, .int .u8 x.b3, .int .i64 x.f, .int .i64 x.g] 29)⟩, ?_⟩⟩
            refine R_only 10 rfl rfl (by kernel_rfl) (opx_call0 (UD_more x t ((datag x t).extract 0 (k + 1).toNat) hx hn hl (by rw [hk1]; omega) (by rw [hk1]; omega)) rfl rfl rfl) (fun _ _ => ⟨_, Take.eq (A := cel b3 [.int .u8 x.a0, .int .u8 x.a1, .int .u8 x.a2, .int .u8 x.a3, .int .u8 x.b0, .int .u8 x.b1, .int .u8 x.b2, .int .u8 x.b3, .int .i64 x.f, .int .i64 x.g] 29)⟩) (.inr fun _ _ => ⟨_, Take.eq (A := cel b3 [.int .u8 x.a0, .int .u8 x.a1, .int .u8 x.a2, .int .u8 x.a3, .int .u8 x.b0, .int .u8 x.b1, .int .u8 x.b2, .int .u8 x.b3, .int .i64 x.f, .int .i64 x.g] 29)⟩) (fun _ _ => ?_)
            refine Rg_emp ?_
            refine R_pure 11 rfl (by kernel_rfl) (by kernel_rfl) (by kernel_rfl) (by kernel_rfl) (.inr ⟨_, Take.eq (A := cel b3 [.int .u8 x.a0, .int .u8 x.a1, .int .u8 x.a2, .int .u8 x.a3, .int .u8 x.b0, .int .u8 x.b1, .int .u8 x.b2, .int .u8 x.b3, .int .i64 x.f, .int .i64 x.g] 29)⟩) (opv_move rfl) rfl ?_
            refine R_pure 12 rfl (by kernel_rfl) (by kernel_rfl) (by kernel_rfl) (by kernel_rfl) (.inr ⟨_, Take.eq (A := cel b3 [.int .u8 x.a0, .int .u8 x.a1, .int .u8 x.a2, .int .u8 x.a3, .int .u8 x.b0, .int .u8 x.b1, .int .u8 x.b2, .int .u8 x.b3, .int .i64 x.f, .int .i64 x.g] 29)⟩) (opv_extract (v := .agg [.int .u8 0, .int .u8 0, .int .u8 0, .int .u8 0, .int .u8 0, .int .u8 0, .int .u8 0, .int .u8 0, .int .i64 0, .int .i64 0].toArray) rfl rfl) rfl ?_
            refine R_pure 13 rfl (by kernel_rfl) (by kernel_rfl) (by kernel_rfl) (by kernel_rfl) (.inr ⟨_, Take.eq (A := cel b3 [.int .u8 x.a0, .int .u8 x.a1, .int .u8 x.a2, .int .u8 x.a3, .int .u8 x.b0, .int .u8 x.b1, .int .u8 x.b2, .int .u8 x.b3, .int .i64 x.f, .int .i64 x.g] 29)⟩) (opv_extract rfl rfl) rfl ?_
            refine R_pure 14 rfl (by kernel_rfl) (by kernel_rfl) (by kernel_rfl) (by kernel_rfl) (.inr ⟨_, Take.eq (A := cel b3 [.int .u8 x.a0, .int .u8 x.a1, .int .u8 x.a2, .int .u8 x.a3, .int .u8 x.b0, .int .u8 x.b1, .int .u8 x.b2, .int .u8 x.b3, .int .i64 x.f, .int .i64 x.g] 29)⟩) (opv_extract rfl rfl) rfl ?_
            refine R_only 16 rfl rfl (by kernel_rfl) (opx_store rfl rfl rfl (by simp [Value.oneCell'])) (fun _ _ => ⟨_, Take.eq (A := cel b3 [.int .u8 x.a0, .int .u8 x.a1, .int .u8 x.a2, .int .u8 x.a3, .int .u8 x.b0, .int .u8 x.b1, .int .u8 x.b2, .int .u8 x.b3, .int .i64 x.f, .int .i64 x.g] 29)⟩) (.inr fun _ _ => ⟨_, Take.eq (A := cel b3 [.int .u8 x.a0, .int .u8 x.a1, .int .u8 x.a2, .int .u8 x.a3, .int .u8 x.b0, .int .u8 x.b1, .int .u8 x.b2, .int .u8 x.b3, .int .i64 x.f, .int .i64 x.g] 29)⟩) (fun _ _ => ?_)
            refine R_pure 17 rfl (by kernel_rfl) (by kernel_rfl) (by kernel_rfl) (by kernel_rfl) (.inr ⟨_, Take.eq (A := cel b3 [.int .u8 x.a0, .int .u8 x.a1, .int .u8 x.a2, .int .u8 x.a3, .int .u8 x.b0, .int .u8 x.b1, .int .u8 x.b2, .int .u8 x.b3, .int .i64 x.f, .int .i64 x.g] 29)⟩) (opv_assign rfl) rfl ?_
            refine R_pure 18 rfl (by kernel_rfl) (by kernel_rfl) (by kernel_rfl) (by kernel_rfl) (.inr ⟨_, Take.eq (A := cel b3 [.int .u8 x.a0, .int .u8 x.a1, .int .u8 x.a2, .int .u8 x.a3, .int .u8 x.b0, .int .u8 x.b1, .int .u8 x.b2, .int .u8 x.b3, .int .i64 x.f, .int .i64 x.g] 29)⟩) (opv_assign rfl) rfl ?_
            refine R_done (by kernel_rfl) ?_
            refine K_then ?_
            refine J_seq ?_
            refine J_region ?_
            refine L_v (opv_move rfl) rfl ?_
            refine L_v ((opv_eql rfl rfl).bool_t rfl) rfl ?_
            refine L_v (opv_move rfl) rfl ?_
            refine L_gon rfl rfl rfl ?_
            refine L_v (opv_move rfl) rfl ?_
            refine L_gon rfl rfl rfl ?_
            refine L_v ((opv_eql rfl rfl).bool_t rfl) rfl ?_
            first
              | refine L_v (opv_pick_tt rfl rfl) rfl ?_
              | refine L_v (opv_pick_ff rfl rfl) rfl ?_
              | refine L_v (opv_pick rfl rfl rfl) rfl ?_
            refine L_v (opv_move rfl) rfl ?_
            refine L_gon rfl rfl rfl ?_
            refine L_x rfl (opx_call0 (uawake_spec) rfl rfl rfl) (fun _ _ => ?_)
            refine L_emp ?_
            first
              | refine L_v (opv_pick_tt rfl rfl) rfl ?_
              | refine L_v (opv_pick_ff rfl rfl) rfl ?_
              | refine L_v (opv_pick rfl rfl rfl) rfl ?_
            refine L_v (opv_assign rfl) rfl ?_
            refine L_nil ?_
            refine K_then ?_
            refine J_ret ?_
            exact K_ret1 rfl rfl () trivial (rfl) Ent.take
    · refine L_gf_off h2 rfl rfl ?_ (fun _ h => by cases h; rfl)
      refine L_gf_off h2 rfl rfl ?_ (fun _ h => by cases h; rfl)
      refine L_gf_off h2 rfl rfl ?_ (fun _ h => by cases h; rfl)
      refine L_v (opv_pick_t rfl h2 rfl) rfl ?_
      refine L_nil ?_
      refine K_then ?_
      refine J_cond_true rfl ?_
      refine J_seq ?_
      refine J_region ?_
      refine L_x rfl (opx_call0 (uawake_spec) rfl rfl rfl) (fun _ _ => ?_)
      refine L_emp ?_
      refine L_v (opv_assign rfl) rfl ?_
      refine L_nil ?_
      refine K_then ?_
      refine J_ret ?_
      refine K_then_ret ?_
      exact K_ret1 rfl rfl () trivial (rfl) Ent.take
  · refine L_gf_off h1 rfl rfl ?_ (fun _ h => by cases h; rfl)
    refine L_v (opv_pick_t rfl h1 rfl) rfl ?_
    refine L_v (opv_move rfl) rfl ?_
    refine L_gskip rfl rfl rfl ?_ (fun _ h => by cases h; rfl)
    refine L_gskip rfl rfl rfl ?_ (fun _ h => by cases h; rfl)
    refine L_gskip rfl rfl rfl ?_ (fun _ h => by cases h; rfl)
    refine L_gskip rfl rfl rfl ?_ (fun _ h => by cases h; rfl)
    first
      | refine L_v (opv_pick_tt rfl rfl) rfl ?_
      | refine L_v (opv_pick_ff rfl rfl) rfl ?_
      | refine L_v (opv_pick rfl rfl rfl) rfl ?_
    refine L_nil ?_
    refine K_then ?_
    refine J_cond_true rfl ?_
    refine J_seq ?_
    refine J_region ?_
    refine L_x rfl (opx_call0 (uawake_spec) rfl rfl rfl) (fun _ _ => ?_)
    refine L_emp ?_
    refine L_v (opv_assign rfl) rfl ?_
    refine L_nil ?_
    refine K_then ?_
    refine J_ret ?_
    refine K_then_ret ?_
    exact K_ret1 rfl rfl () trivial (rfl) Ent.take

end Go.Proofs.Ytdmlcnecildliaa
