/- The laws Ipv4Encodes and Ipv4Parts of the package pitotlaw05 hold for every input: which bytes a packet is, or that it may not be; its first twenty bytes tell how many there are in all, and the bytes carried stand behind them. No condition. -/
import Derived.Test.YtkkomlcjcgdbeaaPa
import Derived.Test.YtkkomlcjcgdbeaaIh
import Derived.Test.YtkkomlcjcgdbeaaH
namespace Go.Proofs.Ytkkomlcjcgdbeaa
open Go.SLA
set_option maxRecDepth 100000
set_option linter.unusedVariables false
set_option linter.unusedSimpArgs false
attribute [local irreducible] J L K QL Rg FSpec OpV OpX Rd Back

/-- What Encode answers. -/
def encP (p : Pk) : ByteArray × Int := if ¬ fieldsB p then (ByteArray.empty, 1) else if 65515 < p.data.size then (ByteArray.empty, 11) else (pkt p, 0)
theorem encP_ok {p : Pk} (h : ¬ (encP p).2 ≠ 0) : fieldsB p ∧ p.data.size ≤ 65515 ∧ encP p = (pkt p, 0) := by
  unfold encP at h ⊢
  split at h
  · exact absurd (show (1 : Int) ≠ 0 by decide) h
  · rename_i hn
    rw [if_neg hn]
    split at h
    · exact absurd (show (11 : Int) ≠ 0 by decide) h
    · rename_i hl
      rw [if_neg hl]
      exact ⟨Classical.not_not.1 hn, by omega, rfl⟩
theorem encP_bad {p : Pk} (h : (encP p).2 ≠ 0) : (encP p).1 = ByteArray.empty := by
  unfold encP at h ⊢
  split at h
  · rename_i hn; rw [if_pos hn]
  · rename_i hn
    rw [if_neg hn]
    split at h
    · rename_i hl; rw [if_pos hl]
    · exact absurd rfl h
theorem Ip4Encode_any (p : Pk) (hp : okPk p) (hd : p.data.size ≤ 140737488351232) : FSpec Try.prog 24 #[.agg [.int .i64 p.id, .bool p.more, .int .i64 p.off, .int .i64 p.ttl, .int .i64 p.proto, .int .u8 p.s0, .int .u8 p.s1, .int .u8 p.s2, .int .u8 p.s3, .int .u8 p.d0, .int .u8 p.d1, .int .u8 p.d2, .int .u8 p.d3, .string p.data].toArray] emp (fun _ : Unit => True) (fun _ => .tuple #[.string (encP p).1, .int .i64 (encP p).2]) (fun _ => emp) := by
  unfold encP
  by_cases h : fieldsB p
  · rw [if_neg (fun n => n h)]
    by_cases hl : 65515 < p.data.size
    · rw [if_pos hl]; exact Ip4Encode_long p hp h hl hd
    · rw [if_neg hl]; exact Ip4Encode_ok p hp h (by omega)
  · rw [if_pos h]; exact Ip4Encode_bad p hp h hd
theorem pkd_ok : okPk ⟨7, false, 0, 0, 0, 0, 0, 0, 0, 0, 0, 0, 0, ⟨#[]⟩⟩ := by
  unfold okPk
  decide
theorem pkd_f : fieldsB ⟨7, false, 0, 0, 0, 0, 0, 0, 0, 0, 0, 0, 0, ⟨#[]⟩⟩ := by
  unfold fieldsB
  decide
theorem lit2 : (⟨#[69, 0]⟩ : ByteArray) = be 69 1 ++ be 0 1 := rfl
attribute [local irreducible] be ones pkt hA hB partN encP

theorem head_eq (p : Pk) (m : Nat) {k : Nat} (hk : k = partN p) : (⟨#[69, 0]⟩ : ByteArray) ++ be (20 + p.data.size) 2 ++ be p.id.toNat 2 ++ be k 2 ++ be p.ttl.toNat 1 ++ be p.proto.toNat 1 ++ be m 2 ++ bytesL p.src ++ bytesL p.dst = h20 p (20 + p.data.size) m := by
  subst hk
  rw [lit2]
  unfold h20 hA hB
  simp only [ByteArray.append_assoc]

set_option maxHeartbeats 400000 in
theorem Rhead_spec (p : Pk) (m : Nat) (h : fieldsB p) (hd : p.data.size ≤ 65515) (hm : m ≤ 65535) : FSpec Try.prog 43 #[.agg [.int .i64 p.id, .bool p.more, .int .i64 p.off, .int .i64 p.ttl, .int .i64 p.proto, .string (bytesL p.src), .string (bytesL p.dst), .string p.data].toArray, .int .i64 m] (emp) (fun _ : Unit => True) (fun _ => .string (h20 p (20 + p.data.size) m)) (fun _ => emp) := by
  obtain ⟨hf1, hf2, hf3, hf4⟩ := h
  have hid : p.id = ((p.id.toNat : Nat) : Int) := by omega
  have htt : p.ttl = ((p.ttl.toNat : Nat) : Int) := by omega
  have hpr : p.proto = ((p.proto.toNat : Nat) : Int) := by omega
  have hz2 : (⟨#[69, 0]⟩ : ByteArray).size = 2 := rfl
  have hls : p.src.length = 4 := rfl
  have hld : p.dst.length = 4 := rfl
  have hpn : partN p = ((if p.more = true then 8192 else 0) + p.off.toNat) := by unfold partN; rfl
  have hpl : partN p ≤ 16383 := by rw [hpn]; split <;> omega
  refine FSpec.enter' Try.func43 rfl Try.ntmps43 rfl fun σ F => ?_
  refine J_emp ?_
  refine J_seq ?_
  refine J_region ?_
  refine L_x rfl (opx_box (l := [.int .i64 p.id, .bool p.more, .int .i64 p.off, .int .i64 p.ttl, .int .i64 p.proto, .string (bytesL p.src), .string (bytesL p.dst), .string p.data]) rfl rfl) (fun b2 _ => ?_)
  refine L_v (opv_assign rfl) rfl ?_
  refine L_nil ?_
  refine K_then ?_
  refine J_seq ?_
  refine J_region ?_
  first
    | refine L_v (opv_fieldAddr0 rfl) rfl ?_
    | refine L_v (opv_fieldAddr rfl) rfl ?_
  refine L_v (opv_load rfl (Rd.look rfl)) rfl ?_
  refine L_v (opv_assign rfl) rfl ?_
  refine L_nil ?_
  refine K_then ?_
  refine J_seq ?_
  refine J_seq ?_
  refine J_region ?_
  first
    | refine L_v (opv_fieldAddr0 rfl) rfl ?_
    | refine L_v (opv_fieldAddr rfl) rfl ?_
  refine L_v (opv_load rfl (Rd.look rfl)) rfl ?_
  refine L_nil ?_
  refine K_then ?_
  refine J_cond_bool rfl (fun h1 => ?_) (fun h1 => ?_)
  · have hpq : p.off + 8192 = ((partN p : Nat) : Int) := by rw [hpn, if_pos h1]; omega
    refine J_region ?_
    refine L_v (opv_move rfl) rfl ?_
    first
      | refine L_v (opv_add64 rfl rfl (by omega)) rfl ?_
      | refine L_v (opv_addS rfl rfl (by omega)) rfl ?_
      | refine L_v (opv_add rfl rfl) rfl ?_
    refine L_v (opv_assign rfl) rfl ?_
    refine L_nil ?_
    refine K_then ?_
    refine J_seq ?_
    refine J_quiet Try.mixed (by kernel_rfl) ?_
    first
      | refine Q_v (opv_fieldAddr0 rfl) rfl ?_
      | refine Q_v (opv_fieldAddr rfl) rfl ?_
    refine Q_v (opv_load rfl (Rd.look rfl)) rfl ?_
    first
      | refine Q_v (opv_lenL rfl) rfl ?_
      | refine Q_v (opv_lenS rfl) rfl ?_
    refine Q_v ((opv_add64 rfl rfl (by omega)).as (v' := .int .i64 ((20 + p.data.size : Nat) : Int)) (congrArg (Value.int .i64) (by omega))) rfl ?_
    refine Q_call (RNum_spec (20 + p.data.size) 2 (by omega) (by decide)) rfl rfl (fun _ _ => rfl) (fun _ _ => Ent.refl _) rfl ?_
    refine Q_v (opv_addS rfl rfl (by simp only [ByteArray.size_append, be_size, hz2, bytesL_size, hls, hld]; first | decide | omega)) rfl ?_
    first
      | refine Q_v (opv_fieldAddr0 rfl) rfl ?_
      | refine Q_v (opv_fieldAddr rfl) rfl ?_
    refine Q_v ((opv_load rfl (Rd.look rfl)).as (congrArg (Value.int .i64) hid)) rfl ?_
    refine Q_call (RNum_spec p.id.toNat 2 (by omega) (by decide)) rfl rfl (fun _ _ => rfl) (fun _ _ => Ent.refl _) rfl ?_
    refine Q_v (opv_addS rfl rfl (by simp only [ByteArray.size_append, be_size, hz2, bytesL_size, hls, hld]; first | decide | omega)) rfl ?_
    refine Q_v ((opv_move rfl).as (congrArg (Value.int .i64) hpq)) rfl ?_
    refine Q_call (RNum_spec (partN p) 2 (by omega) (by decide)) rfl rfl (fun _ _ => rfl) (fun _ _ => Ent.refl _) rfl ?_
    refine Q_v (opv_addS rfl rfl (by simp only [ByteArray.size_append, be_size, hz2, bytesL_size, hls, hld]; first | decide | omega)) rfl ?_
    first
      | refine Q_v (opv_fieldAddr0 rfl) rfl ?_
      | refine Q_v (opv_fieldAddr rfl) rfl ?_
    refine Q_v ((opv_load rfl (Rd.look rfl)).as (congrArg (Value.int .i64) htt)) rfl ?_
    refine Q_call (RNum_spec p.ttl.toNat 1 (by omega) (by decide)) rfl rfl (fun _ _ => rfl) (fun _ _ => Ent.refl _) rfl ?_
    refine Q_v (opv_addS rfl rfl (by simp only [ByteArray.size_append, be_size, hz2, bytesL_size, hls, hld]; first | decide | omega)) rfl ?_
    first
      | refine Q_v (opv_fieldAddr0 rfl) rfl ?_
      | refine Q_v (opv_fieldAddr rfl) rfl ?_
    refine Q_v ((opv_load rfl (Rd.look rfl)).as (congrArg (Value.int .i64) hpr)) rfl ?_
    refine Q_call (RNum_spec p.proto.toNat 1 (by omega) (by decide)) rfl rfl (fun _ _ => rfl) (fun _ _ => Ent.refl _) rfl ?_
    refine Q_v (opv_addS rfl rfl (by simp only [ByteArray.size_append, be_size, hz2, bytesL_size, hls, hld]; first | decide | omega)) rfl ?_
    refine Q_v (opv_move rfl) rfl ?_
    refine Q_call (RNum_spec m 2 (by omega) (by decide)) rfl rfl (fun _ _ => rfl) (fun _ _ => Ent.refl _) rfl ?_
    refine Q_v (opv_addS rfl rfl (by simp only [ByteArray.size_append, be_size, hz2, bytesL_size, hls, hld]; first | decide | omega)) rfl ?_
    first
      | refine Q_v (opv_fieldAddr0 rfl) rfl ?_
      | refine Q_v (opv_fieldAddr rfl) rfl ?_
    refine Q_v (opv_load rfl (Rd.look rfl)) rfl ?_
    refine Q_v (opv_addS rfl rfl (by simp only [ByteArray.size_append, be_size, hz2, bytesL_size, hls, hld]; first | decide | omega)) rfl ?_
    first
      | refine Q_v (opv_fieldAddr0 rfl) rfl ?_
      | refine Q_v (opv_fieldAddr rfl) rfl ?_
    refine Q_v (opv_load rfl (Rd.look rfl)) rfl ?_
    refine Q_v ((opv_addS rfl rfl (by simp only [ByteArray.size_append, be_size, hz2, bytesL_size, hls, hld]; first | decide | omega)).as (congrArg Value.string (head_eq p m rfl))) rfl ?_
    refine Q_v (opv_assign rfl) rfl ?_
    refine QL_nil ?_
    refine K_then ?_
    refine J_ret ?_
    exact K_ret1 rfl rfl () trivial (rfl) Ent.take
  · have hpq : p.off = ((partN p : Nat) : Int) := by rw [hpn, if_neg (by rw [h1]; decide)]; omega
    refine J_skip ?_
    refine K_then ?_
    refine J_seq ?_
    refine J_quiet Try.mixed (by kernel_rfl) ?_
    first
      | refine Q_v (opv_fieldAddr0 rfl) rfl ?_
      | refine Q_v (opv_fieldAddr rfl) rfl ?_
    refine Q_v (opv_load rfl (Rd.look rfl)) rfl ?_
    first
      | refine Q_v (opv_lenL rfl) rfl ?_
      | refine Q_v (opv_lenS rfl) rfl ?_
    refine Q_v ((opv_add64 rfl rfl (by omega)).as (v' := .int .i64 ((20 + p.data.size : Nat) : Int)) (congrArg (Value.int .i64) (by omega))) rfl ?_
    refine Q_call (RNum_spec (20 + p.data.size) 2 (by omega) (by decide)) rfl rfl (fun _ _ => rfl) (fun _ _ => Ent.refl _) rfl ?_
    refine Q_v (opv_addS rfl rfl (by simp only [ByteArray.size_append, be_size, hz2, bytesL_size, hls, hld]; first | decide | omega)) rfl ?_
    first
      | refine Q_v (opv_fieldAddr0 rfl) rfl ?_
      | refine Q_v (opv_fieldAddr rfl) rfl ?_
    refine Q_v ((opv_load rfl (Rd.look rfl)).as (congrArg (Value.int .i64) hid)) rfl ?_
    refine Q_call (RNum_spec p.id.toNat 2 (by omega) (by decide)) rfl rfl (fun _ _ => rfl) (fun _ _ => Ent.refl _) rfl ?_
    refine Q_v (opv_addS rfl rfl (by simp only [ByteArray.size_append, be_size, hz2, bytesL_size, hls, hld]; first | decide | omega)) rfl ?_
    refine Q_v ((opv_move rfl).as (congrArg (Value.int .i64) hpq)) rfl ?_
    refine Q_call (RNum_spec (partN p) 2 (by omega) (by decide)) rfl rfl (fun _ _ => rfl) (fun _ _ => Ent.refl _) rfl ?_
    refine Q_v (opv_addS rfl rfl (by simp only [ByteArray.size_append, be_size, hz2, bytesL_size, hls, hld]; first | decide | omega)) rfl ?_
    first
      | refine Q_v (opv_fieldAddr0 rfl) rfl ?_
      | refine Q_v (opv_fieldAddr rfl) rfl ?_
    refine Q_v ((opv_load rfl (Rd.look rfl)).as (congrArg (Value.int .i64) htt)) rfl ?_
    refine Q_call (RNum_spec p.ttl.toNat 1 (by omega) (by decide)) rfl rfl (fun _ _ => rfl) (fun _ _ => Ent.refl _) rfl ?_
    refine Q_v (opv_addS rfl rfl (by simp only [ByteArray.size_append, be_size, hz2, bytesL_size, hls, hld]; first | decide | omega)) rfl ?_
    first
      | refine Q_v (opv_fieldAddr0 rfl) rfl ?_
      | refine Q_v (opv_fieldAddr rfl) rfl ?_
    refine Q_v ((opv_load rfl (Rd.look rfl)).as (congrArg (Value.int .i64) hpr)) rfl ?_
    refine Q_call (RNum_spec p.proto.toNat 1 (by omega) (by decide)) rfl rfl (fun _ _ => rfl) (fun _ _ => Ent.refl _) rfl ?_
    refine Q_v (opv_addS rfl rfl (by simp only [ByteArray.size_append, be_size, hz2, bytesL_size, hls, hld]; first | decide | omega)) rfl ?_
    refine Q_v (opv_move rfl) rfl ?_
    refine Q_call (RNum_spec m 2 (by omega) (by decide)) rfl rfl (fun _ _ => rfl) (fun _ _ => Ent.refl _) rfl ?_
    refine Q_v (opv_addS rfl rfl (by simp only [ByteArray.size_append, be_size, hz2, bytesL_size, hls, hld]; first | decide | omega)) rfl ?_
    first
      | refine Q_v (opv_fieldAddr0 rfl) rfl ?_
      | refine Q_v (opv_fieldAddr rfl) rfl ?_
    refine Q_v (opv_load rfl (Rd.look rfl)) rfl ?_
    refine Q_v (opv_addS rfl rfl (by simp only [ByteArray.size_append, be_size, hz2, bytesL_size, hls, hld]; first | decide | omega)) rfl ?_
    first
      | refine Q_v (opv_fieldAddr0 rfl) rfl ?_
      | refine Q_v (opv_fieldAddr rfl) rfl ?_
    refine Q_v (opv_load rfl (Rd.look rfl)) rfl ?_
    refine Q_v ((opv_addS rfl rfl (by simp only [ByteArray.size_append, be_size, hz2, bytesL_size, hls, hld]; first | decide | omega)).as (congrArg Value.string (head_eq p m rfl))) rfl ?_
    refine Q_v (opv_assign rfl) rfl ?_
    refine QL_nil ?_
    refine K_then ?_
    refine J_ret ?_
    exact K_ret1 rfl rfl () trivial (rfl) Ent.take

theorem RIp4_bad (p : Pk) (h : ¬ fieldsB p) : FSpec Try.prog 25 #[.agg [.int .i64 p.id, .bool p.more, .int .i64 p.off, .int .i64 p.ttl, .int .i64 p.proto, .string (bytesL p.src), .string (bytesL p.dst), .string p.data].toArray] (emp) (fun _ : Unit => True) (fun _ => .tuple #[.string (ByteArray.empty), .int .i64 1]) (fun _ => emp) := by
  unfold fieldsB at h
  refine FSpec.enter' Try.func25 rfl Try.ntmps25 rfl fun σ F => ?_
  refine J_emp ?_
  refine J_seq ?_
  refine J_region ?_
  refine L_x rfl (opx_box (l := [.int .i64 p.id, .bool p.more, .int .i64 p.off, .int .i64 p.ttl, .int .i64 p.proto, .string (bytesL p.src), .string (bytesL p.dst), .string p.data]) rfl rfl) (fun b1 _ => ?_)
  refine L_v (opv_assign rfl) rfl ?_
  refine L_v (opv_assign rfl) rfl ?_
  refine L_nil ?_
  refine K_then ?_
  refine J_seq ?_
  refine J_seq ?_
  refine J_region ?_
  first
    | refine L_v (opv_fieldAddr0 rfl) rfl ?_
    | refine L_v (opv_fieldAddr rfl) rfl ?_
  refine L_v (opv_load rfl (Rd.look rfl)) rfl ?_
  refine L_v (opv_lss rfl rfl) rfl ?_
  refine L_v (opv_move rfl) rfl ?_
  refine L_gf rfl rfl (fun h1 => ?_) (fun h1 => ?_) (fun _ h => by cases h; rfl)
  · first
      | refine L_v (opv_fieldAddr0 rfl) rfl ?_
      | refine L_v (opv_fieldAddr rfl) rfl ?_
    refine L_gf_on h1 rfl rfl ?_
    refine L_v (opv_load rfl (Rd.look rfl)) rfl ?_
    refine L_gf_on h1 rfl rfl ?_
    refine L_v (opv_gtr rfl rfl) rfl ?_
    refine L_v (opv_pick_f rfl h1 rfl) rfl ?_
    refine L_v (opv_move rfl) rfl ?_
    refine L_gf rfl rfl (fun h2 => ?_) (fun h2 => ?_) (fun _ h => by cases h; rfl)
    · first
        | refine L_v (opv_fieldAddr0 rfl) rfl ?_
        | refine L_v (opv_fieldAddr rfl) rfl ?_
      refine L_gf_on h2 rfl rfl ?_
      refine L_v (opv_load rfl (Rd.look rfl)) rfl ?_
      refine L_gf_on h2 rfl rfl ?_
      refine L_v (opv_lss rfl rfl) rfl ?_
      refine L_v (opv_pick_f rfl h2 rfl) rfl ?_
      refine L_v (opv_move rfl) rfl ?_
      refine L_gf rfl rfl (fun h3 => ?_) (fun h3 => ?_) (fun _ h => by cases h; rfl)
      · first
          | refine L_v (opv_fieldAddr0 rfl) rfl ?_
          | refine L_v (opv_fieldAddr rfl) rfl ?_
        refine L_gf_on h3 rfl rfl ?_
        refine L_v (opv_load rfl (Rd.look rfl)) rfl ?_
        refine L_gf_on h3 rfl rfl ?_
        refine L_v (opv_gtr rfl rfl) rfl ?_
        refine L_v (opv_pick_f rfl h3 rfl) rfl ?_
        refine L_v (opv_move rfl) rfl ?_
        refine L_gf rfl rfl (fun h4 => ?_) (fun h4 => ?_) (fun _ h => by cases h; rfl)
        · first
            | refine L_v (opv_fieldAddr0 rfl) rfl ?_
            | refine L_v (opv_fieldAddr rfl) rfl ?_
          refine L_gf_on h4 rfl rfl ?_
          refine L_v (opv_load rfl (Rd.look rfl)) rfl ?_
          refine L_gf_on h4 rfl rfl ?_
          refine L_v (opv_lss rfl rfl) rfl ?_
          refine L_v (opv_pick_f rfl h4 rfl) rfl ?_
          refine L_v (opv_move rfl) rfl ?_
          refine L_gf rfl rfl (fun h5 => ?_) (fun h5 => ?_) (fun _ h => by cases h; rfl)
          · first
              | refine L_v (opv_fieldAddr0 rfl) rfl ?_
              | refine L_v (opv_fieldAddr rfl) rfl ?_
            refine L_gf_on h5 rfl rfl ?_
            refine L_v (opv_load rfl (Rd.look rfl)) rfl ?_
            refine L_gf_on h5 rfl rfl ?_
            refine L_v (opv_gtr rfl rfl) rfl ?_
            refine L_v (opv_pick_f rfl h5 rfl) rfl ?_
            refine L_v (opv_move rfl) rfl ?_
            refine L_gf rfl rfl (fun h6 => ?_) (fun h6 => ?_) (fun _ h => by cases h; rfl)
            · first
                | refine L_v (opv_fieldAddr0 rfl) rfl ?_
                | refine L_v (opv_fieldAddr rfl) rfl ?_
              refine L_gf_on h6 rfl rfl ?_
              refine L_v (opv_load rfl (Rd.look rfl)) rfl ?_
              refine L_gf_on h6 rfl rfl ?_
              refine L_v (opv_lss rfl rfl) rfl ?_
              refine L_v (opv_pick_f rfl h6 rfl) rfl ?_
              refine L_v (opv_move rfl) rfl ?_
              refine L_gf rfl rfl (fun h7 => ?_) (fun h7 => ?_) (fun _ h => by cases h; rfl)
              · first
                  | refine L_v (opv_fieldAddr0 rfl) rfl ?_
                  | refine L_v (opv_fieldAddr rfl) rfl ?_
                refine L_gf_on h7 rfl rfl ?_
                refine L_v (opv_load rfl (Rd.look rfl)) rfl ?_
                refine L_gf_on h7 rfl rfl ?_
                refine L_v (opv_gtr rfl rfl) rfl ?_
                refine L_v (opv_pick_f rfl h7 rfl) rfl ?_
                refine L_nil ?_
                refine K_then ?_
                refine J_cond rfl (fun h8 => ?_) (fun h8 => by exfalso; omega)
                refine J_seq ?_
                refine J_region ?_
                refine L_v (opv_assign rfl) rfl ?_
                refine L_v (opv_assign rfl) rfl ?_
                refine L_nil ?_
                refine K_then ?_
                refine J_ret ?_
                refine K_then_ret ?_
                exact K_ret2 rfl rfl rfl () trivial rfl Ent.take
              · refine L_gf_off h7 rfl rfl ?_ (fun _ h => by cases h; rfl)
                refine L_gf_off h7 rfl rfl ?_ (fun _ h => by cases h; rfl)
                refine L_v (opv_pick_t rfl h7 rfl) rfl ?_
                refine L_nil ?_
                refine K_then ?_
                refine J_cond_true rfl ?_
                refine J_seq ?_
                refine J_region ?_
                refine L_v (opv_assign rfl) rfl ?_
                refine L_v (opv_assign rfl) rfl ?_
                refine L_nil ?_
                refine K_then ?_
                refine J_ret ?_
                refine K_then_ret ?_
                exact K_ret2 rfl rfl rfl () trivial rfl Ent.take
            · refine L_gf_off h6 rfl rfl ?_ (fun _ h => by cases h; rfl)
              refine L_gf_off h6 rfl rfl ?_ (fun _ h => by cases h; rfl)
              refine L_v (opv_pick_t rfl h6 rfl) rfl ?_
              refine L_v (opv_move rfl) rfl ?_
              refine L_gskip rfl rfl rfl ?_ (fun _ h => by cases h; rfl)
              refine L_gskip rfl rfl rfl ?_ (fun _ h => by cases h; rfl)
              refine L_gskip rfl rfl rfl ?_ (fun _ h => by cases h; rfl)
              first
                | refine L_v (opv_pick_tt rfl rfl) rfl ?_
                | refine L_v (opv_pick_ff rfl rfl) rfl ?_
                | refine L_v (opv_pick rfl rfl rfl) rfl ?_
              refine L_nil ?_
              refine K_then ?_
              refine J_cond_true rfl ?_
              refine J_seq ?_
              refine J_region ?_
              refine L_v (opv_assign rfl) rfl ?_
              refine L_v (opv_assign rfl) rfl ?_
              refine L_nil ?_
              refine K_then ?_
              refine J_ret ?_
              refine K_then_ret ?_
              exact K_ret2 rfl rfl rfl () trivial rfl Ent.take
          · refine L_gf_off h5 rfl rfl ?_ (fun _ h => by cases h; rfl)
            refine L_gf_off h5 rfl rfl ?_ (fun _ h => by cases h; rfl)
            refine L_v (opv_pick_t rfl h5 rfl) rfl ?_
            refine L_v (opv_move rfl) rfl ?_
            refine L_gskip rfl rfl rfl ?_ (fun _ h => by cases h; rfl)
            refine L_gskip rfl rfl rfl ?_ (fun _ h => by cases h; rfl)
            refine L_gskip rfl rfl rfl ?_ (fun _ h => by cases h; rfl)
            first
              | refine L_v (opv_pick_tt rfl rfl) rfl ?_
              | refine L_v (opv_pick_ff rfl rfl) rfl ?_
              | refine L_v (opv_pick rfl rfl rfl) rfl ?_
            refine L_v (opv_move rfl) rfl ?_
            refine L_gskip rfl rfl rfl ?_ (fun _ h => by cases h; rfl)
            refine L_gskip rfl rfl rfl ?_ (fun _ h => by cases h; rfl)
            refine L_gskip rfl rfl rfl ?_ (fun _ h => by cases h; rfl)
            first
              | refine L_v (opv_pick_tt rfl rfl) rfl ?_
              | refine L_v (opv_pick_ff rfl rfl) rfl ?_
              | refine L_v (opv_pick rfl rfl rfl) rfl ?_
            refine L_nil ?_
            refine K_then ?_
            refine J_cond_true rfl ?_
            refine J_seq ?_
            refine J_region ?_
            refine L_v (opv_assign rfl) rfl ?_
            refine L_v (opv_assign rfl) rfl ?_
            refine L_nil ?_
            refine K_then ?_
            refine J_ret ?_
            refine K_then_ret ?_
            exact K_ret2 rfl rfl rfl () trivial rfl Ent.take
        · refine L_gf_off h4 rfl rfl ?_ (fun _ h => by cases h; rfl)
          refine L_gf_off h4 rfl rfl ?_ (fun _ h => by cases h; rfl)
          refine L_v (opv_pick_t rfl h4 rfl) rfl ?_
          refine L_v (opv_move rfl) rfl ?_
          refine L_gskip rfl rfl rfl ?_ (fun _ h => by cases h; rfl)
          refine L_gskip rfl rfl rfl ?_ (fun _ h => by cases h; rfl)
          refine L_gskip rfl rfl rfl ?_ (fun _ h => by cases h; rfl)
          first
            | refine L_v (opv_pick_tt rfl rfl) rfl ?_
            | refine L_v (opv_pick_ff rfl rfl) rfl ?_
            | refine L_v (opv_pick rfl rfl rfl) rfl ?_
          refine L_v (opv_move rfl) rfl ?_
          refine L_gskip rfl rfl rfl ?_ (fun _ h => by cases h; rfl)
          refine L_gskip rfl rfl rfl ?_ (fun _ h => by cases h; rfl)
          refine L_gskip rfl rfl rfl ?_ (fun _ h => by cases h; rfl)
          first
            | refine L_v (opv_pick_tt rfl rfl) rfl ?_
            | refine L_v (opv_pick_ff rfl rfl) rfl ?_
            | refine L_v (opv_pick rfl rfl rfl) rfl ?_
          refine L_v (opv_move rfl) rfl ?_
          refine L_gskip rfl rfl rfl ?_ (fun _ h => by cases h; rfl)
          refine L_gskip rfl rfl rfl ?_ (fun _ h => by cases h; rfl)
          refine L_gskip rfl rfl rfl ?_ (fun _ h => by cases h; rfl)
          first
            | refine L_v (opv_pick_tt rfl rfl) rfl ?_
            | refine L_v (opv_pick_ff rfl rfl) rfl ?_
            | refine L_v (opv_pick rfl rfl rfl) rfl ?_
          refine L_nil ?_
          refine K_then ?_
          refine J_cond_true rfl ?_
          refine J_seq ?_
          refine J_region ?_
          refine L_v (opv_assign rfl) rfl ?_
          refine L_v (opv_assign rfl) rfl ?_
          refine L_nil ?_
          refine K_then ?_
          refine J_ret ?_
          refine K_then_ret ?_
          exact K_ret2 rfl rfl rfl () trivial rfl Ent.take
      · refine L_gf_off h3 rfl rfl ?_ (fun _ h => by cases h; rfl)
        refine L_gf_off h3 rfl rfl ?_ (fun _ h => by cases h; rfl)
        refine L_v (opv_pick_t rfl h3 rfl) rfl ?_
        refine L_v (opv_move rfl) rfl ?_
        refine L_gskip rfl rfl rfl ?_ (fun _ h => by cases h; rfl)
        refine L_gskip rfl rfl rfl ?_ (fun _ h => by cases h; rfl)
        refine L_gskip rfl rfl rfl ?_ (fun _ h => by cases h; rfl)
        first
          | refine L_v (opv_pick_tt rfl rfl) rfl ?_
          | refine L_v (opv_pick_ff rfl rfl) rfl ?_
          | refine L_v (opv_pick rfl rfl rfl) rfl ?_
        refine L_v (opv_move rfl) rfl ?_
        refine L_gskip rfl rfl rfl ?_ (fun _ h => by cases h; rfl)
        refine L_gskip rfl rfl rfl ?_ (fun _ h => by cases h; rfl)
        refine L_gskip rfl rfl rfl ?_ (fun _ h => by cases h; rfl)
        first
          | refine L_v (opv_pick_tt rfl rfl) rfl ?_
          | refine L_v (opv_pick_ff rfl rfl) rfl ?_
          | refine L_v (opv_pick rfl rfl rfl) rfl ?_
        refine L_v (opv_move rfl) rfl ?_
        refine L_gskip rfl rfl rfl ?_ (fun _ h => by cases h; rfl)
        refine L_gskip rfl rfl rfl ?_ (fun _ h => by cases h; rfl)
        refine L_gskip rfl rfl rfl ?_ (fun _ h => by cases h; rfl)
        first
          | refine L_v (opv_pick_tt rfl rfl) rfl ?_
          | refine L_v (opv_pick_ff rfl rfl) rfl ?_
          | refine L_v (opv_pick rfl rfl rfl) rfl ?_
        refine L_v (opv_move rfl) rfl ?_
        refine L_gskip rfl rfl rfl ?_ (fun _ h => by cases h; rfl)
        refine L_gskip rfl rfl rfl ?_ (fun _ h => by cases h; rfl)
        refine L_gskip rfl rfl rfl ?_ (fun _ h => by cases h; rfl)
        first
          | refine L_v (opv_pick_tt rfl rfl) rfl ?_
          | refine L_v (opv_pick_ff rfl rfl) rfl ?_
          | refine L_v (opv_pick rfl rfl rfl) rfl ?_
        refine L_nil ?_
        refine K_then ?_
        refine J_cond_true rfl ?_
        refine J_seq ?_
        refine J_region ?_
        refine L_v (opv_assign rfl) rfl ?_
        refine L_v (opv_assign rfl) rfl ?_
        refine L_nil ?_
        refine K_then ?_
        refine J_ret ?_
        refine K_then_ret ?_
        exact K_ret2 rfl rfl rfl () trivial rfl Ent.take
    · refine L_gf_off h2 rfl rfl ?_ (fun _ h => by cases h; rfl)
      refine L_gf_off h2 rfl rfl ?_ (fun _ h => by cases h; rfl)
      refine L_v (opv_pick_t rfl h2 rfl) rfl ?_
      refine L_v (opv_move rfl) rfl ?_
      refine L_gskip rfl rfl rfl ?_ (fun _ h => by cases h; rfl)
      refine L_gskip rfl rfl rfl ?_ (fun _ h => by cases h; rfl)
      refine L_gskip rfl rfl rfl ?_ (fun _ h => by cases h; rfl)
      first
        | refine L_v (opv_pick_tt rfl rfl) rfl ?_
        | refine L_v (opv_pick_ff rfl rfl) rfl ?_
        | refine L_v (opv_pick rfl rfl rfl) rfl ?_
      refine L_v (opv_move rfl) rfl ?_
      refine L_gskip rfl rfl rfl ?_ (fun _ h => by cases h; rfl)
      refine L_gskip rfl rfl rfl ?_ (fun _ h => by cases h; rfl)
      refine L_gskip rfl rfl rfl ?_ (fun _ h => by cases h; rfl)
      first
        | refine L_v (opv_pick_tt rfl rfl) rfl ?_
        | refine L_v (opv_pick_ff rfl rfl) rfl ?_
        | refine L_v (opv_pick rfl rfl rfl) rfl ?_
      refine L_v (opv_move rfl) rfl ?_
      refine L_gskip rfl rfl rfl ?_ (fun _ h => by cases h; rfl)
      refine L_gskip rfl rfl rfl ?_ (fun _ h => by cases h; rfl)
      refine L_gskip rfl rfl rfl ?_ (fun _ h => by cases h; rfl)
      first
        | refine L_v (opv_pick_tt rfl rfl) rfl ?_
        | refine L_v (opv_pick_ff rfl rfl) rfl ?_
        | refine L_v (opv_pick rfl rfl rfl) rfl ?_
      refine L_v (opv_move rfl) rfl ?_
      refine L_gskip rfl rfl rfl ?_ (fun _ h => by cases h; rfl)
      refine L_gskip rfl rfl rfl ?_ (fun _ h => by cases h; rfl)
      refine L_gskip rfl rfl rfl ?_ (fun _ h => by cases h; rfl)
      first
        | refine L_v (opv_pick_tt rfl rfl) rfl ?_
        | refine L_v (opv_pick_ff rfl rfl) rfl ?_
        | refine L_v (opv_pick rfl rfl rfl) rfl ?_
      refine L_v (opv_move rfl) rfl ?_
      refine L_gskip rfl rfl rfl ?_ (fun _ h => by cases h; rfl)
      refine L_gskip rfl rfl rfl ?_ (fun _ h => by cases h; rfl)
      refine L_gskip rfl rfl rfl ?_ (fun _ h => by cases h; rfl)
      first
        | refine L_v (opv_pick_tt rfl rfl) rfl ?_
        | refine L_v (opv_pick_ff rfl rfl) rfl ?_
        | refine L_v (opv_pick rfl rfl rfl) rfl ?_
      refine L_nil ?_
      refine K_then ?_
      refine J_cond_true rfl ?_
      refine J_seq ?_
      refine J_region ?_
      refine L_v (opv_assign rfl) rfl ?_
      refine L_v (opv_assign rfl) rfl ?_
      refine L_nil ?_
      refine K_then ?_
      refine J_ret ?_
      refine K_then_ret ?_
      exact K_ret2 rfl rfl rfl () trivial rfl Ent.take
  · refine L_gf_off h1 rfl rfl ?_ (fun _ h => by cases h; rfl)
    refine L_gf_off h1 rfl rfl ?_ (fun _ h => by cases h; rfl)
    refine L_v (opv_pick_t rfl h1 rfl) rfl ?_
    refine L_v (opv_move rfl) rfl ?_
    refine L_gskip rfl rfl rfl ?_ (fun _ h => by cases h; rfl)
    refine L_gskip rfl rfl rfl ?_ (fun _ h => by cases h; rfl)
    refine L_gskip rfl rfl rfl ?_ (fun _ h => by cases h; rfl)
    first
      | refine L_v (opv_pick_tt rfl rfl) rfl ?_
      | refine L_v (opv_pick_ff rfl rfl) rfl ?_
      | refine L_v (opv_pick rfl rfl rfl) rfl ?_
    refine L_v (opv_move rfl) rfl ?_
    refine L_gskip rfl rfl rfl ?_ (fun _ h => by cases h; rfl)
    refine L_gskip rfl rfl rfl ?_ (fun _ h => by cases h; rfl)
    refine L_gskip rfl rfl rfl ?_ (fun _ h => by cases h; rfl)
    first
      | refine L_v (opv_pick_tt rfl rfl) rfl ?_
      | refine L_v (opv_pick_ff rfl rfl) rfl ?_
      | refine L_v (opv_pick rfl rfl rfl) rfl ?_
    refine L_v (opv_move rfl) rfl ?_
    refine L_gskip rfl rfl rfl ?_ (fun _ h => by cases h; rfl)
    refine L_gskip rfl rfl rfl ?_ (fun _ h => by cases h; rfl)
    refine L_gskip rfl rfl rfl ?_ (fun _ h => by cases h; rfl)
    first
      | refine L_v (opv_pick_tt rfl rfl) rfl ?_
      | refine L_v (opv_pick_ff rfl rfl) rfl ?_
      | refine L_v (opv_pick rfl rfl rfl) rfl ?_
    refine L_v (opv_move rfl) rfl ?_
    refine L_gskip rfl rfl rfl ?_ (fun _ h => by cases h; rfl)
    refine L_gskip rfl rfl rfl ?_ (fun _ h => by cases h; rfl)
    refine L_gskip rfl rfl rfl ?_ (fun _ h => by cases h; rfl)
    first
      | refine L_v (opv_pick_tt rfl rfl) rfl ?_
      | refine L_v (opv_pick_ff rfl rfl) rfl ?_
      | refine L_v (opv_pick rfl rfl rfl) rfl ?_
    refine L_v (opv_move rfl) rfl ?_
    refine L_gskip rfl rfl rfl ?_ (fun _ h => by cases h; rfl)
    refine L_gskip rfl rfl rfl ?_ (fun _ h => by cases h; rfl)
    refine L_gskip rfl rfl rfl ?_ (fun _ h => by cases h; rfl)
    first
      | refine L_v (opv_pick_tt rfl rfl) rfl ?_
      | refine L_v (opv_pick_ff rfl rfl) rfl ?_
      | refine L_v (opv_pick rfl rfl rfl) rfl ?_
    refine L_v (opv_move rfl) rfl ?_
    refine L_gskip rfl rfl rfl ?_ (fun _ h => by cases h; rfl)
    refine L_gskip rfl rfl rfl ?_ (fun _ h => by cases h; rfl)
    refine L_gskip rfl rfl rfl ?_ (fun _ h => by cases h; rfl)
    first
      | refine L_v (opv_pick_tt rfl rfl) rfl ?_
      | refine L_v (opv_pick_ff rfl rfl) rfl ?_
      | refine L_v (opv_pick rfl rfl rfl) rfl ?_
    refine L_nil ?_
    refine K_then ?_
    refine J_cond_true rfl ?_
    refine J_seq ?_
    refine J_region ?_
    refine L_v (opv_assign rfl) rfl ?_
    refine L_v (opv_assign rfl) rfl ?_
    refine L_nil ?_
    refine K_then ?_
    refine J_ret ?_
    refine K_then_ret ?_
    exact K_ret2 rfl rfl rfl () trivial rfl Ent.take

theorem RIp4_long (p : Pk) (h : fieldsB p) (hd : 65515 < p.data.size) : FSpec Try.prog 25 #[.agg [.int .i64 p.id, .bool p.more, .int .i64 p.off, .int .i64 p.ttl, .int .i64 p.proto, .string (bytesL p.src), .string (bytesL p.dst), .string p.data].toArray] (emp) (fun _ : Unit => True) (fun _ => .tuple #[.string (ByteArray.empty), .int .i64 11]) (fun _ => emp) := by
  unfold fieldsB at h
  refine FSpec.enter' Try.func25 rfl Try.ntmps25 rfl fun σ F => ?_
  refine J_emp ?_
  refine J_seq ?_
  refine J_region ?_
  refine L_x rfl (opx_box (l := [.int .i64 p.id, .bool p.more, .int .i64 p.off, .int .i64 p.ttl, .int .i64 p.proto, .string (bytesL p.src), .string (bytesL p.dst), .string p.data]) rfl rfl) (fun b1 _ => ?_)
  refine L_v (opv_assign rfl) rfl ?_
  refine L_v (opv_assign rfl) rfl ?_
  refine L_nil ?_
  refine K_then ?_
  refine J_seq ?_
  refine J_seq ?_
  refine J_region ?_
  first
    | refine L_v (opv_fieldAddr0 rfl) rfl ?_
    | refine L_v (opv_fieldAddr rfl) rfl ?_
  refine L_v (opv_load rfl (Rd.look rfl)) rfl ?_
  refine L_v ((opv_lss rfl rfl).bool_f (by omega)) rfl ?_
  refine L_v (opv_move rfl) rfl ?_
  refine L_gon rfl rfl rfl ?_
  first
    | refine L_v (opv_fieldAddr0 rfl) rfl ?_
    | refine L_v (opv_fieldAddr rfl) rfl ?_
  refine L_gon rfl rfl rfl ?_
  refine L_v (opv_load rfl (Rd.look rfl)) rfl ?_
  refine L_gon rfl rfl rfl ?_
  refine L_v ((opv_gtr rfl rfl).bool_f (by omega)) rfl ?_
  first
    | refine L_v (opv_pick_tt rfl rfl) rfl ?_
    | refine L_v (opv_pick_ff rfl rfl) rfl ?_
    | refine L_v (opv_pick rfl rfl rfl) rfl ?_
  refine L_v (opv_move rfl) rfl ?_
  refine L_gon rfl rfl rfl ?_
  first
    | refine L_v (opv_fieldAddr0 rfl) rfl ?_
    | refine L_v (opv_fieldAddr rfl) rfl ?_
  refine L_gon rfl rfl rfl ?_
  refine L_v (opv_load rfl (Rd.look rfl)) rfl ?_
  refine L_gon rfl rfl rfl ?_
  refine L_v ((opv_lss rfl rfl).bool_f (by omega)) rfl ?_
  first
    | refine L_v (opv_pick_tt rfl rfl) rfl ?_
    | refine L_v (opv_pick_ff rfl rfl) rfl ?_
    | refine L_v (opv_pick rfl rfl rfl) rfl ?_
  refine L_v (opv_move rfl) rfl ?_
  refine L_gon rfl rfl rfl ?_
  first
    | refine L_v (opv_fieldAddr0 rfl) rfl ?_
    | refine L_v (opv_fieldAddr rfl) rfl ?_
  refine L_gon rfl rfl rfl ?_
  refine L_v (opv_load rfl (Rd.look rfl)) rfl ?_
  refine L_gon rfl rfl rfl ?_
  refine L_v ((opv_gtr rfl rfl).bool_f (by omega)) rfl ?_
  first
    | refine L_v (opv_pick_tt rfl rfl) rfl ?_
    | refine L_v (opv_pick_ff rfl rfl) rfl ?_
    | refine L_v (opv_pick rfl rfl rfl) rfl ?_
  refine L_v (opv_move rfl) rfl ?_
  refine L_gon rfl rfl rfl ?_
  first
    | refine L_v (opv_fieldAddr0 rfl) rfl ?_
    | refine L_v (opv_fieldAddr rfl) rfl ?_
  refine L_gon rfl rfl rfl ?_
  refine L_v (opv_load rfl (Rd.look rfl)) rfl ?_
  refine L_gon rfl rfl rfl ?_
  refine L_v ((opv_lss rfl rfl).bool_f (by omega)) rfl ?_
  first
    | refine L_v (opv_pick_tt rfl rfl) rfl ?_
    | refine L_v (opv_pick_ff rfl rfl) rfl ?_
    | refine L_v (opv_pick rfl rfl rfl) rfl ?_
  refine L_v (opv_move rfl) rfl ?_
  refine L_gon rfl rfl rfl ?_
  first
    | refine L_v (opv_fieldAddr0 rfl) rfl ?_
    | refine L_v (opv_fieldAddr rfl) rfl ?_
  refine L_gon rfl rfl rfl ?_
  refine L_v (opv_load rfl (Rd.look rfl)) rfl ?_
  refine L_gon rfl rfl rfl ?_
  refine L_v ((opv_gtr rfl rfl).bool_f (by omega)) rfl ?_
  first
    | refine L_v (opv_pick_tt rfl rfl) rfl ?_
    | refine L_v (opv_pick_ff rfl rfl) rfl ?_
    | refine L_v (opv_pick rfl rfl rfl) rfl ?_
  refine L_v (opv_move rfl) rfl ?_
  refine L_gon rfl rfl rfl ?_
  first
    | refine L_v (opv_fieldAddr0 rfl) rfl ?_
    | refine L_v (opv_fieldAddr rfl) rfl ?_
  refine L_gon rfl rfl rfl ?_
  refine L_v (opv_load rfl (Rd.look rfl)) rfl ?_
  refine L_gon rfl rfl rfl ?_
  refine L_v ((opv_lss rfl rfl).bool_f (by omega)) rfl ?_
  first
    | refine L_v (opv_pick_tt rfl rfl) rfl ?_
    | refine L_v (opv_pick_ff rfl rfl) rfl ?_
    | refine L_v (opv_pick rfl rfl rfl) rfl ?_
  refine L_v (opv_move rfl) rfl ?_
  refine L_gon rfl rfl rfl ?_
  first
    | refine L_v (opv_fieldAddr0 rfl) rfl ?_
    | refine L_v (opv_fieldAddr rfl) rfl ?_
  refine L_gon rfl rfl rfl ?_
  refine L_v (opv_load rfl (Rd.look rfl)) rfl ?_
  refine L_gon rfl rfl rfl ?_
  refine L_v ((opv_gtr rfl rfl).bool_f (by omega)) rfl ?_
  first
    | refine L_v (opv_pick_tt rfl rfl) rfl ?_
    | refine L_v (opv_pick_ff rfl rfl) rfl ?_
    | refine L_v (opv_pick rfl rfl rfl) rfl ?_
  refine L_nil ?_
  refine K_then ?_
  refine J_cond_false rfl ?_
  refine J_skip ?_
  refine K_then ?_
  refine J_seq ?_
  refine J_seq ?_
  refine J_region ?_
  first
    | refine L_v (opv_fieldAddr0 rfl) rfl ?_
    | refine L_v (opv_fieldAddr rfl) rfl ?_
  refine L_v (opv_load rfl (Rd.look rfl)) rfl ?_
  first
    | refine L_v (opv_lenL rfl) rfl ?_
    | refine L_v (opv_lenS rfl) rfl ?_
  refine L_v ((opv_gtr rfl rfl).bool_t (by omega)) rfl ?_
  refine L_nil ?_
  refine K_then ?_
  refine J_cond_true rfl ?_
  refine J_seq ?_
  refine J_region ?_
  refine L_v (opv_assign rfl) rfl ?_
  refine L_v (opv_assign rfl) rfl ?_
  refine L_nil ?_
  refine K_then ?_
  refine J_ret ?_
  refine K_then_ret ?_
  exact K_ret2 rfl rfl rfl () trivial rfl Ent.take

theorem pkt_def (p : Pk) : h20 p (20 + p.data.size) (ones (h20 p (20 + p.data.size) 0)) ++ p.data = pkt p := by unfold pkt; rfl
theorem RIp4_ok (p : Pk) (h : fieldsB p) (hd : p.data.size ≤ 65515) : FSpec Try.prog 25 #[.agg [.int .i64 p.id, .bool p.more, .int .i64 p.off, .int .i64 p.ttl, .int .i64 p.proto, .string (bytesL p.src), .string (bytesL p.dst), .string p.data].toArray] (emp) (fun _ : Unit => True) (fun _ => .tuple #[.string (pkt p), .int .i64 0]) (fun _ => emp) := by
  have hff := h
  unfold fieldsB at h
  have hz := h20_size p (20 + p.data.size) (ones (h20 p (20 + p.data.size) 0))
  have hz0 := h20_size p (20 + p.data.size) 0
  have hol := ones_le (h20 p (20 + p.data.size) 0)
  refine FSpec.enter' Try.func25 rfl Try.ntmps25 rfl fun σ F => ?_
  refine J_emp ?_
  refine J_seq ?_
  refine J_region ?_
  refine L_x rfl (opx_box (l := [.int .i64 p.id, .bool p.more, .int .i64 p.off, .int .i64 p.ttl, .int .i64 p.proto, .string (bytesL p.src), .string (bytesL p.dst), .string p.data]) rfl rfl) (fun b1 _ => ?_)
  refine L_v (opv_assign rfl) rfl ?_
  refine L_v (opv_assign rfl) rfl ?_
  refine L_nil ?_
  refine K_then ?_
  refine J_seq ?_
  refine J_seq ?_
  refine J_region ?_
  first
    | refine L_v (opv_fieldAddr0 rfl) rfl ?_
    | refine L_v (opv_fieldAddr rfl) rfl ?_
  refine L_v (opv_load rfl (Rd.look rfl)) rfl ?_
  refine L_v ((opv_lss rfl rfl).bool_f (by omega)) rfl ?_
  refine L_v (opv_move rfl) rfl ?_
  refine L_gon rfl rfl rfl ?_
  first
    | refine L_v (opv_fieldAddr0 rfl) rfl ?_
    | refine L_v (opv_fieldAddr rfl) rfl ?_
  refine L_gon rfl rfl rfl ?_
  refine L_v (opv_load rfl (Rd.look rfl)) rfl ?_
  refine L_gon rfl rfl rfl ?_
  refine L_v ((opv_gtr rfl rfl).bool_f (by omega)) rfl ?_
  first
    | refine L_v (opv_pick_tt rfl rfl) rfl ?_
    | refine L_v (opv_pick_ff rfl rfl) rfl ?_
    | refine L_v (opv_pick rfl rfl rfl) rfl ?_
  refine L_v (opv_move rfl) rfl ?_
  refine L_gon rfl rfl rfl ?_
  first
    | refine L_v (opv_fieldAddr0 rfl) rfl ?_
    | refine L_v (opv_fieldAddr rfl) rfl ?_
  refine L_gon rfl rfl rfl ?_
  refine L_v (opv_load rfl (Rd.look rfl)) rfl ?_
  refine L_gon rfl rfl rfl ?_
  refine L_v ((opv_lss rfl rfl).bool_f (by omega)) rfl ?_
  first
    | refine L_v (opv_pick_tt rfl rfl) rfl ?_
    | refine L_v (opv_pick_ff rfl rfl) rfl ?_
    | refine L_v (opv_pick rfl rfl rfl) rfl ?_
  refine L_v (opv_move rfl) rfl ?_
  refine L_gon rfl rfl rfl ?_
  first
    | refine L_v (opv_fieldAddr0 rfl) rfl ?_
    | refine L_v (opv_fieldAddr rfl) rfl ?_
  refine L_gon rfl rfl rfl ?_
  refine L_v (opv_load rfl (Rd.look rfl)) rfl ?_
  refine L_gon rfl rfl rfl ?_
  refine L_v ((opv_gtr rfl rfl).bool_f (by omega)) rfl ?_
  first
    | refine L_v (opv_pick_tt rfl rfl) rfl ?_
    | refine L_v (opv_pick_ff rfl rfl) rfl ?_
    | refine L_v (opv_pick rfl rfl rfl) rfl ?_
  refine L_v (opv_move rfl) rfl ?_
  refine L_gon rfl rfl rfl ?_
  first
    | refine L_v (opv_fieldAddr0 rfl) rfl ?_
    | refine L_v (opv_fieldAddr rfl) rfl ?_
  refine L_gon rfl rfl rfl ?_
  refine L_v (opv_load rfl (Rd.look rfl)) rfl ?_
  refine L_gon rfl rfl rfl ?_
  refine L_v ((opv_lss rfl rfl).bool_f (by omega)) rfl ?_
  first
    | refine L_v (opv_pick_tt rfl rfl) rfl ?_
    | refine L_v (opv_pick_ff rfl rfl) rfl ?_
    | refine L_v (opv_pick rfl rfl rfl) rfl ?_
  refine L_v (opv_move rfl) rfl ?_
  refine L_gon rfl rfl rfl ?_
  first
    | refine L_v (opv_fieldAddr0 rfl) rfl ?_
    | refine L_v (opv_fieldAddr rfl) rfl ?_
  refine L_gon rfl rfl rfl ?_
  refine L_v (opv_load rfl (Rd.look rfl)) rfl ?_
  refine L_gon rfl rfl rfl ?_
  refine L_v ((opv_gtr rfl rfl).bool_f (by omega)) rfl ?_
  first
    | refine L_v (opv_pick_tt rfl rfl) rfl ?_
    | refine L_v (opv_pick_ff rfl rfl) rfl ?_
    | refine L_v (opv_pick rfl rfl rfl) rfl ?_
  refine L_v (opv_move rfl) rfl ?_
  refine L_gon rfl rfl rfl ?_
  first
    | refine L_v (opv_fieldAddr0 rfl) rfl ?_
    | refine L_v (opv_fieldAddr rfl) rfl ?_
  refine L_gon rfl rfl rfl ?_
  refine L_v (opv_load rfl (Rd.look rfl)) rfl ?_
  refine L_gon rfl rfl rfl ?_
  refine L_v ((opv_lss rfl rfl).bool_f (by omega)) rfl ?_
  first
    | refine L_v (opv_pick_tt rfl rfl) rfl ?_
    | refine L_v (opv_pick_ff rfl rfl) rfl ?_
    | refine L_v (opv_pick rfl rfl rfl) rfl ?_
  refine L_v (opv_move rfl) rfl ?_
  refine L_gon rfl rfl rfl ?_
  first
    | refine L_v (opv_fieldAddr0 rfl) rfl ?_
    | refine L_v (opv_fieldAddr rfl) rfl ?_
  refine L_gon rfl rfl rfl ?_
  refine L_v (opv_load rfl (Rd.look rfl)) rfl ?_
  refine L_gon rfl rfl rfl ?_
  refine L_v ((opv_gtr rfl rfl).bool_f (by omega)) rfl ?_
  first
    | refine L_v (opv_pick_tt rfl rfl) rfl ?_
    | refine L_v (opv_pick_ff rfl rfl) rfl ?_
    | refine L_v (opv_pick rfl rfl rfl) rfl ?_
  refine L_nil ?_
  refine K_then ?_
  refine J_cond_false rfl ?_
  refine J_skip ?_
  refine K_then ?_
  refine J_seq ?_
  refine J_seq ?_
  refine J_region ?_
  first
    | refine L_v (opv_fieldAddr0 rfl) rfl ?_
    | refine L_v (opv_fieldAddr rfl) rfl ?_
  refine L_v (opv_load rfl (Rd.look rfl)) rfl ?_
  first
    | refine L_v (opv_lenL rfl) rfl ?_
    | refine L_v (opv_lenS rfl) rfl ?_
  refine L_v ((opv_gtr rfl rfl).bool_f (by omega)) rfl ?_
  refine L_nil ?_
  refine K_then ?_
  refine J_cond_false rfl ?_
  refine J_skip ?_
  refine K_then ?_
  refine J_seq ?_
  refine J_quiet Try.mixed (by kernel_rfl) ?_
  refine Q_v (opv_loadS rfl) rfl ?_
  refine Q_v (opv_loadS rfl) rfl ?_
  refine Q_call (Rhead_spec p 0 hff hd (by decide)) rfl rfl (fun _ _ => rfl) (fun _ _ => Ent.refl _) rfl ?_
  refine Q_call (ROnes_spec (h20 p (20 + p.data.size) 0) (by omega)) rfl rfl (fun _ _ => rfl) (fun _ _ => Ent.refl _) rfl ?_
  refine Q_call (Rhead_spec p (ones (h20 p (20 + p.data.size) 0)) hff hd hol) rfl rfl (fun _ _ => rfl) (fun _ _ => Ent.refl _) rfl ?_
  first
    | refine Q_v (opv_fieldAddr0 rfl) rfl ?_
    | refine Q_v (opv_fieldAddr rfl) rfl ?_
  refine Q_v (opv_load rfl (Rd.look rfl)) rfl ?_
  refine Q_v ((opv_addS rfl rfl (by omega)).as (congrArg Value.string (pkt_def p))) rfl ?_
  refine Q_v (opv_assign rfl) rfl ?_
  refine Q_v (opv_assign rfl) rfl ?_
  refine QL_nil ?_
  refine K_then ?_
  refine J_ret ?_
  exact K_ret2 rfl rfl rfl () trivial rfl Ent.take

theorem RIp4_any (p : Pk) : FSpec Try.prog 25 #[.agg [.int .i64 p.id, .bool p.more, .int .i64 p.off, .int .i64 p.ttl, .int .i64 p.proto, .string (bytesL p.src), .string (bytesL p.dst), .string p.data].toArray] emp (fun _ : Unit => True) (fun _ => .tuple #[.string (encP p).1, .int .i64 (encP p).2]) (fun _ => emp) := by
  unfold encP
  by_cases h : fieldsB p
  · rw [if_neg (fun n => n h)]
    by_cases hl : 65515 < p.data.size
    · rw [if_pos hl]; exact RIp4_long p h hl
    · rw [if_neg hl]; exact RIp4_ok p h (by omega)
  · rw [if_pos h]; exact RIp4_bad p h

theorem Ip4Decode_few (s : ByteArray) (h : s.size < 20) : FSpec Try.prog 26 #[.string s] (emp) (fun _ : Unit => True) (fun _ => .tuple #[.agg [.int .i64 0, .bool false, .int .i64 0, .int .i64 0, .int .i64 0, .int .u8 0, .int .u8 0, .int .u8 0, .int .u8 0, .int .u8 0, .int .u8 0, .int .u8 0, .int .u8 0, .string ⟨#[]⟩].toArray, .int .i64 10]) (fun _ => emp) := by
  refine FSpec.enter' Try.func26 rfl Try.ntmps26 rfl fun σ F => ?_
  refine J_emp ?_
  refine J_seq ?_
  refine J_region ?_
  refine L_x rfl (opx_alloc rfl) (fun b2 _ => ?_)
  refine L_v (opv_assign rfl) rfl ?_
  refine L_nil ?_
  refine K_then ?_
  refine J_seq ?_
  refine J_seq ?_
  refine J_region ?_
  refine L_v (opv_move rfl) rfl ?_
  first
    | refine L_v (opv_lenL rfl) rfl ?_
    | refine L_v (opv_lenS rfl) rfl ?_
  refine L_v ((opv_lss rfl rfl).bool_t (by omega)) rfl ?_
  refine L_nil ?_
  refine K_then ?_
  refine J_cond_true rfl ?_
  refine J_seq ?_
  refine J_region ?_
  refine L_v (opv_build rfl) rfl ?_
  refine L_x rfl (opx_store rfl rfl rfl (by simp [Value.oneCell'])) (fun _ _ => ?_)
  refine L_v (opv_assign rfl) rfl ?_
  refine L_nil ?_
  refine K_then ?_
  refine J_ret ?_
  refine K_then_ret ?_
  exact K_ret2c rfl rfl rfl rfl () trivial rfl Ent.take

theorem pawake_spec  : FSpec Try.prog 23 #[] (emp) (fun _ : Unit => True) (fun _ => .bool true) (fun _ => emp) := by
  refine FSpec.enter' Try.func23 rfl Try.ntmps23 rfl fun σ F => ?_
  refine J_seq ?_
  refine J_region ?_
  refine L_v (opv_assign rfl) rfl ?_
  refine L_nil ?_
  refine K_then ?_
  refine J_seq ?_
  refine J_region ?_
  refine L_v (opv_build rfl) rfl ?_
  refine L_x rfl (opx_call0 (Ip4Encode_ok ⟨7, false, 0, 0, 0, 0, 0, 0, 0, 0, 0, 0, 0, ⟨#[]⟩⟩ pkd_ok pkd_f (by decide)) rfl rfl rfl) (fun _ _ => ?_)
  refine L_emp ?_
  refine L_v (opv_move rfl) rfl ?_
  refine L_v (opv_extract rfl rfl) rfl ?_
  refine L_v (opv_extract rfl rfl) rfl ?_
  refine L_v (opv_assign rfl) rfl ?_
  refine L_v (opv_assign rfl) rfl ?_
  refine L_nil ?_
  refine K_then ?_
  refine J_seq ?_
  refine J_region ?_
  refine L_x rfl (opx_call0 (Ip4Decode_few ⟨#[49, 50, 51, 52, 53, 54, 55, 56, 57, 48, 49, 50, 51, 52, 53, 54, 55, 56, 57]⟩ (by decide)) rfl rfl rfl) (fun _ _ => ?_)
  refine L_emp ?_
  refine L_v (opv_move rfl) rfl ?_
  refine L_v (opv_extract (v := .agg [.int .i64 0, .bool false, .int .i64 0, .int .i64 0, .int .i64 0, .int .u8 0, .int .u8 0, .int .u8 0, .int .u8 0, .int .u8 0, .int .u8 0, .int .u8 0, .int .u8 0, .string ⟨#[]⟩].toArray) rfl rfl) rfl ?_
  refine L_v (opv_extract rfl rfl) rfl ?_
  refine L_x rfl (opx_alloc rfl) (fun b3 _ => ?_)
  refine L_x rfl (opx_store rfl rfl rfl (by simp [Value.oneCell'])) (fun _ _ => ?_)
  refine L_v (opv_assign rfl) rfl ?_
  refine L_nil ?_
  refine K_then ?_
  refine J_seq ?_
  refine J_region ?_
  refine L_v (opv_move rfl) rfl ?_
  first
    | refine L_v (opv_lenL rfl) rfl ?_
    | refine L_v (opv_lenS rfl) rfl ?_
  refine L_v ((opv_eql rfl rfl).bool_t (by rw [pkt_size]; rfl)) rfl ?_
  refine L_v (opv_move rfl) rfl ?_
  refine L_gon rfl rfl rfl ?_
  refine L_v (opv_move rfl) rfl ?_
  refine L_gon rfl rfl rfl ?_
  refine L_v ((opv_eql rfl rfl).bool_t rfl) rfl ?_
  first
    | refine L_v (opv_pick_tt rfl rfl) rfl ?_
    | refine L_v (opv_pick_ff rfl rfl) rfl ?_
    | refine L_v (opv_pick rfl rfl rfl) rfl ?_
  refine L_v (opv_move rfl) rfl ?_
  refine L_gon rfl rfl rfl ?_
  refine L_v (opv_move rfl) rfl ?_
  refine L_gon rfl rfl rfl ?_
  refine L_v ((opv_eql rfl rfl).bool_t rfl) rfl ?_
  first
    | refine L_v (opv_pick_tt rfl rfl) rfl ?_
    | refine L_v (opv_pick_ff rfl rfl) rfl ?_
    | refine L_v (opv_pick rfl rfl rfl) rfl ?_
  refine L_v (opv_assign rfl) rfl ?_
  refine L_nil ?_
  refine K_then ?_
  refine J_ret ?_
  exact K_ret1 rfl rfl () trivial (rfl) Ent.take

theorem PE_big (W : World) (p : Pk) (h : 70000 < p.data.size) : FSpec Try.prog 8 #[.agg [.int .i64 p.id, .bool p.more, .int .i64 p.off, .int .i64 p.ttl, .int .i64 p.proto, .int .u8 p.s0, .int .u8 p.s1, .int .u8 p.s2, .int .u8 p.s3, .int .u8 p.d0, .int .u8 p.d1, .int .u8 p.d2, .int .u8 p.d3, .string p.data].toArray] (old W) (fun _ : Unit => True) (fun _ => .bool true) (fun _ => old W) := by
  refine FSpec.enter' Try.func8 rfl Try.ntmps8 rfl fun σ F => ?_
  refine J_seq ?_
  refine J_region ?_
  refine L_x rfl (opx_box (l := [.int .i64 p.id, .bool p.more, .int .i64 p.off, .int .i64 p.ttl, .int .i64 p.proto, .int .u8 p.s0, .int .u8 p.s1, .int .u8 p.s2, .int .u8 p.s3, .int .u8 p.d0, .int .u8 p.d1, .int .u8 p.d2, .int .u8 p.d3, .string p.data]) rfl rfl) (fun b1 _ => ?_)
  refine L_v (opv_assign rfl) rfl ?_
  refine L_nil ?_
  refine K_then ?_
  refine J_seq ?_
  refine J_seq ?_
  refine J_region ?_
  first
    | refine L_v (opv_fieldAddr0 rfl) rfl ?_
    | refine L_v (opv_fieldAddr rfl) rfl ?_
  refine L_v (opv_load rfl (Rd.look rfl)) rfl ?_
  first
    | refine L_v (opv_lenL rfl) rfl ?_
    | refine L_v (opv_lenS rfl) rfl ?_
  refine L_v ((opv_gtr rfl rfl).bool_t (by omega)) rfl ?_
  refine L_nil ?_
  refine K_then ?_
  refine J_cond_true rfl ?_
  refine J_seq ?_
  refine J_region ?_
  refine L_x rfl (opx_call0 (pawake_spec) rfl rfl rfl) (fun _ _ => ?_)
  refine L_emp ?_
  refine L_v (opv_assign rfl) rfl ?_
  refine L_nil ?_
  refine K_then ?_
  refine J_ret ?_
  refine K_then_ret ?_
  exact K_ret1 rfl rfl () trivial (rfl) Ent.take

theorem PE_ok (W : World) (p : Pk) (hp : okPk p) (h : p.data.size ≤ 70000) : FSpec Try.prog 8 #[.agg [.int .i64 p.id, .bool p.more, .int .i64 p.off, .int .i64 p.ttl, .int .i64 p.proto, .int .u8 p.s0, .int .u8 p.s1, .int .u8 p.s2, .int .u8 p.s3, .int .u8 p.d0, .int .u8 p.d1, .int .u8 p.d2, .int .u8 p.d3, .string p.data].toArray] (old W) (fun _ : Unit => True) (fun _ => .bool true) (fun _ => old W) := by
  refine FSpec.enter' Try.func8 rfl Try.ntmps8 rfl fun σ F => ?_
  refine J_seq ?_
  refine J_region ?_
  refine L_x rfl (opx_box (l := [.int .i64 p.id, .bool p.more, .int .i64 p.off, .int .i64 p.ttl, .int .i64 p.proto, .int .u8 p.s0, .int .u8 p.s1, .int .u8 p.s2, .int .u8 p.s3, .int .u8 p.d0, .int .u8 p.d1, .int .u8 p.d2, .int .u8 p.d3, .string p.data]) rfl rfl) (fun b1 _ => ?_)
  refine L_v (opv_assign rfl) rfl ?_
  refine L_nil ?_
  refine K_then ?_
  refine J_seq ?_
  refine J_seq ?_
  refine J_region ?_
  first
    | refine L_v (opv_fieldAddr0 rfl) rfl ?_
    | refine L_v (opv_fieldAddr rfl) rfl ?_
  refine L_v (opv_load rfl (Rd.look rfl)) rfl ?_
  first
    | refine L_v (opv_lenL rfl) rfl ?_
    | refine L_v (opv_lenS rfl) rfl ?_
  refine L_v ((opv_gtr rfl rfl).bool_f (by omega)) rfl ?_
  refine L_nil ?_
  refine K_then ?_
  refine J_cond_false rfl ?_
  refine J_skip ?_
  refine K_then ?_
  refine J_seq ?_
  refine J_region ?_
  refine L_v (opv_loadS rfl) rfl ?_
  refine L_x rfl (opx_call0 (Ip4Encode_any p hp (by omega)) rfl rfl rfl) (fun _ _ => ?_)
  refine L_emp ?_
  refine L_v (opv_move rfl) rfl ?_
  refine L_v (opv_extract rfl rfl) rfl ?_
  refine L_v (opv_extract rfl rfl) rfl ?_
  refine L_v (opv_assign rfl) rfl ?_
  refine L_v (opv_assign rfl) rfl ?_
  refine L_nil ?_
  refine K_then ?_
  refine J_seq ?_
  refine J_region ?_
  refine L_v (opv_loadS rfl) rfl ?_
  refine L_x rfl (opx_call0 (Plain_lit p hp) rfl rfl rfl) (fun _ _ => ?_)
  refine L_emp ?_
  refine L_x rfl (opx_call0 (RIp4_any p) rfl rfl rfl) (fun _ _ => ?_)
  refine L_emp ?_
  refine L_v (opv_move rfl) rfl ?_
  refine L_v (opv_extract rfl rfl) rfl ?_
  refine L_v (opv_extract rfl rfl) rfl ?_
  refine L_v (opv_assign rfl) rfl ?_
  refine L_v (opv_assign rfl) rfl ?_
  refine L_nil ?_
  refine K_then ?_
  refine J_seq ?_
  refine J_region ?_
  refine L_v (opv_move rfl) rfl ?_
  refine L_v (opv_move rfl) rfl ?_
  refine L_v ((opv_eqlS rfl rfl).bool_t rfl) rfl ?_
  refine L_v (opv_move rfl) rfl ?_
  refine L_gon rfl rfl rfl ?_
  refine L_v (opv_move rfl) rfl ?_
  refine L_gon rfl rfl rfl ?_
  refine L_v (opv_move rfl) rfl ?_
  refine L_gon rfl rfl rfl ?_
  refine L_v ((opv_eql rfl rfl).bool_t rfl) rfl ?_
  first
    | refine L_v (opv_pick_tt rfl rfl) rfl ?_
    | refine L_v (opv_pick_ff rfl rfl) rfl ?_
    | refine L_v (opv_pick rfl rfl rfl) rfl ?_
  refine L_v (opv_move rfl) rfl ?_
  refine L_gon rfl rfl rfl ?_
  refine L_x rfl (opx_call0 (pawake_spec) rfl rfl rfl) (fun _ _ => ?_)
  refine L_emp ?_
  first
    | refine L_v (opv_pick_tt rfl rfl) rfl ?_
    | refine L_v (opv_pick_ff rfl rfl) rfl ?_
    | refine L_v (opv_pick rfl rfl rfl) rfl ?_
  refine L_v (opv_assign rfl) rfl ?_
  refine L_nil ?_
  refine K_then ?_
  refine J_ret ?_
  exact K_ret1 rfl rfl () trivial (rfl) Ent.take

theorem Ipv4Encodes_law (W : World) (p : Pk) (hp : okPk p) : FSpec Try.prog 8 #[.agg (encPk p).toArray] (old W) (fun _ : Unit => True) (fun _ => .bool true) (fun _ => old W) := by
  by_cases hd : 70000 < p.data.size
  · exact PE_big W p hd
  · exact PE_ok W p hp (by omega)

end Go.Proofs.Ytkkomlcjcgdbeaa
namespace Go.Proofs.Ytkkomlcjcgdbeaa.ipv4Encodes
open Go.ChangeShapes Go.WideShapes Go.ChangeAt Go.RowKit Go.SLA
open Go.ChangeMaps (open_string shut_string)
set_option linter.unusedVariables false
theorem own : ownKnob Try.prog.godebug = none := by kernel_rfl
theorem laidOut : laidOutB Try.prog = true := by kernel_rfl
set_option maxRecDepth 100000 in
theorem lifted (os : Os) (started : os.Started) (H : Type) (enc : TypeId × Value → H) :
    ReturnsInHanded {} Try.checked os 8 .any (Rows.ipv4EncodesSpec.pre6 enc Try.prog Try.f8 Rows.ipv4EncodesRow.domain false) (Rows.ipv4EncodesSpec.post enc Try.prog Try.f8 false true false false) := by
  refine returnsInHanded_of_change_sized (C := Try.checked) own started (by kernel_rfl) Try.func8
    (ChangeSpec.witness6 (enc := enc) (C := Try.checked) false ⟨#[], #[.agg (encPk pkz).toArray], []⟩ 8 (by kernel_rfl) (by kernel_rfl) (by kernel_rfl) (by kernel_rfl)) ?_
  intro W base args ds gs before hval0 hW hcnd hsz0 _
  have hsz : (DataW.weightsEach Try.prog (Try.f8.params.toList ++ Rows.ipv4EncodesSpec.plain.varTypes Try.prog) (ds ++ gs)).all (· ≤ reachBytes) = true := hsz0
  have hval : ∀ (j : Nat) t v, Try.f8.params[j]? = some t → args[j]? = some v → Value.okWide Try.prog W .any base t v := hval0
  have hW' := hW
  obtain ⟨p, q, hA0, hV, rfl, hfz, hnd⟩ := hW
  have hA : DataW.TrodAll enc Try.prog W 0 (fun _ => true) true Try.f8.params.toList args.toList ds p := hA0
  rw [Try.params8] at hA hval hsz
  obtain ⟨v0, vs0, d0, ds0, p0, q0, hargs, rfl, rfl, h0, r0⟩ := trodAll_cons hA
  obtain ⟨rfl, rfl, rfl⟩ := trodAll_nil r0
  obtain rfl : args = #[v0] := by cases args; simp_all
  obtain ⟨rfl, rfl⟩ := trodVars_none hV
  have k0 := h0
  have lt0 : ∀ x ∈ p0, x.block < W.heap.size := by obtain ⟨m, hm⟩ := k0; exact DataW.trod_lt m _ _ _ hm
  obtain ⟨l0, rfl, g0⟩ := open_flat (D := 5) (ks := ksPk) (by kernel_rfl) (by kernel_rfl) (hval 0 41 v0 rfl rfl) h0
  obtain ⟨x0, rfl, ok0⟩ := decPk l0 g0
  clear hA0 hval0 hsz0 hsz
  refine (FSpec.law (Ipv4Encodes_law W x0 ok0)).mono fun e W' ⟨he, bel⟩ => ?_
  subst he
  exact ⟨_, rfl, _, _, _, [], _, [], hW', trodAll_mk1 (shut_bool Try.underlying4 _), (trodAll_cons_mk (Below.trod laidOut (by kernel_rfl) (of_decide_eq_true (by kernel_rfl)) k0 bel lt0) trodAll_mk0), rfl, bel.frame _, fun h => by cases h⟩
theorem over : Rows.ipv4EncodesRow.holds Try.pinned (OpenSpec.ofChange Rows.ipv4EncodesSpec) :=
  OpenClaim.holds_of_wide 8 Try.f8 rfl rfl rfl rfl rfl rfl rfl ⟨rfl, rfl, rfl, rfl, rfl⟩ rfl rfl rfl rfl rfl (by kernel_rfl) Try.func8 (by kernel_rfl)
    (of_decide_eq_true (by kernel_rfl)) (by unfold Func.isWrapper; first | (rw [if_pos (by decide +kernel)]; kernel_rfl) | (rw [if_neg (by decide +kernel)]; exact ⟨rfl, rfl⟩))
    (fun os started H enc _ => lifted os started H enc)
end Go.Proofs.Ytkkomlcjcgdbeaa.ipv4Encodes
namespace Go.Proofs.Ytkkomlcjcgdbeaa
theorem ipv4Encodes_holds : Rows.Ipv4EncodesSaid := ipv4Encodes.over
#print axioms ipv4Encodes_holds
end Go.Proofs.Ytkkomlcjcgdbeaa
namespace Go.Proofs.Ytkkomlcjcgdbeaa
open Go.SLA
set_option maxRecDepth 100000
attribute [local irreducible] be ones pkt hA hB partN encP word J L K QL Rg FSpec OpV OpX Rd Back

theorem hA_word2 (p : Pk) {n : Nat} (h : n ≤ 65535) : word (hA p n) 2 = n := by
  unfold hA
  rw [word_app_l (by simp only [ByteArray.size_append, be_size]; omega), word_app_l (by simp only [ByteArray.size_append, be_size]; omega), word_app_l (by simp only [ByteArray.size_append, be_size]; omega), word_app_l (by simp only [ByteArray.size_append, be_size]; omega), word_app_r (by simp only [ByteArray.size_append, be_size]; omega)]
  simp only [ByteArray.size_append, be_size]
  exact word_be h
theorem hA_word4 (p : Pk) (n : Nat) (h : fieldsB p) : word (hA p n) 4 = p.id.toNat := by
  unfold fieldsB at h
  unfold hA
  rw [word_app_l (by simp only [ByteArray.size_append, be_size]; omega), word_app_l (by simp only [ByteArray.size_append, be_size]; omega), word_app_l (by simp only [ByteArray.size_append, be_size]; omega), word_app_r (by simp only [ByteArray.size_append, be_size]; omega)]
  simp only [ByteArray.size_append, be_size]
  exact word_be (by omega)
theorem pkt_app (p : Pk) : pkt p = hA p (20 + p.data.size) ++ (be (ones (h20 p (20 + p.data.size) 0)) 2 ++ (hB p ++ p.data)) := by
  unfold pkt h20
  simp only [ByteArray.append_assoc]
theorem pkt_word2 (p : Pk) (h : p.data.size ≤ 65515) : word (pkt p) 2 = 20 + p.data.size := by
  rw [pkt_app, word_app_l (by rw [hA_size]; decide), hA_word2 p (by omega)]
theorem pkt_word4 (p : Pk) (h : fieldsB p) : word (pkt p) 4 = p.id.toNat := by
  rw [pkt_app, word_app_l (by rw [hA_size]; decide), hA_word4 p _ h]
theorem pkt_data (p : Pk) : (pkt p).extract 20 (pkt p).size = p.data := by
  rw [pkt_size, ← pkt_def]
  exact ByteArray.extract_append_eq_right (by rw [h20_size]) (by rw [h20_size])
theorem pkt_src (p : Pk) : (pkt p).extract 12 16 = bytesL [p.s0, p.s1, p.s2, p.s3] := by
  have hs : (bytesL [p.s0, p.s1, p.s2, p.s3]).size = 4 := bytesL_size _
  have e : pkt p = (hA p (20 + p.data.size) ++ be (ones (h20 p (20 + p.data.size) 0)) 2) ++ (bytesL [p.s0, p.s1, p.s2, p.s3] ++ (bytesL [p.d0, p.d1, p.d2, p.d3] ++ p.data)) := by
    rw [pkt_app, ← hB_eq]
    simp only [ByteArray.append_assoc]
  have hz : (hA p (20 + p.data.size) ++ be (ones (h20 p (20 + p.data.size) 0)) 2).size = 12 := by rw [ByteArray.size_append, hA_size, be_size]
  refine bn_ext (by rw [ext_size _ _ _ (by rw [pkt_size]; omega), hs]) fun i hi => ?_
  rw [ext_size _ _ _ (by rw [pkt_size]; omega)] at hi
  rw [bn_extract (by omega) (by rw [pkt_size]; omega), e, bn_app_r (by omega), hz, show 12 + i - 12 = i by omega, bn_app_l (by omega)]
theorem pkt_dst (p : Pk) : (pkt p).extract 16 20 = bytesL [p.d0, p.d1, p.d2, p.d3] := by
  have hs : (bytesL [p.d0, p.d1, p.d2, p.d3]).size = 4 := bytesL_size _
  have hs0 : (bytesL [p.s0, p.s1, p.s2, p.s3]).size = 4 := bytesL_size _
  have e : pkt p = (hA p (20 + p.data.size) ++ be (ones (h20 p (20 + p.data.size) 0)) 2 ++ bytesL [p.s0, p.s1, p.s2, p.s3]) ++ (bytesL [p.d0, p.d1, p.d2, p.d3] ++ p.data) := by
    rw [pkt_app, ← hB_eq]
    simp only [ByteArray.append_assoc]
  have hz : (hA p (20 + p.data.size) ++ be (ones (h20 p (20 + p.data.size) 0)) 2 ++ bytesL [p.s0, p.s1, p.s2, p.s3]).size = 16 := by rw [ByteArray.size_append, ByteArray.size_append, hA_size, be_size, hs0]
  refine bn_ext (by rw [ext_size _ _ _ (by rw [pkt_size]; omega), hs]) fun i hi => ?_
  rw [ext_size _ _ _ (by rw [pkt_size]; omega)] at hi
  rw [bn_extract (by omega) (by rw [pkt_size]; omega), e, bn_app_r (by omega), hz, show 16 + i - 16 = i by omega, bn_app_l (by omega)]
theorem word_eq5 (s : ByteArray) (i : Nat) : word s i = bn s i * 256 + bn s (i + 1) := by unfold word; rfl

theorem PP_big (W : World) (p : Pk) (h : 5000 < p.data.size) : FSpec Try.prog 13 #[.agg [.int .i64 p.id, .bool p.more, .int .i64 p.off, .int .i64 p.ttl, .int .i64 p.proto, .int .u8 p.s0, .int .u8 p.s1, .int .u8 p.s2, .int .u8 p.s3, .int .u8 p.d0, .int .u8 p.d1, .int .u8 p.d2, .int .u8 p.d3, .string p.data].toArray] (old W) (fun _ : Unit => True) (fun _ => .bool true) (fun _ => old W) := by
  refine FSpec.enter' Try.func13 rfl Try.ntmps13 rfl fun σ F => ?_
  refine J_seq ?_
  refine J_region ?_
  refine L_x rfl (opx_box (l := [.int .i64 p.id, .bool p.more, .int .i64 p.off, .int .i64 p.ttl, .int .i64 p.proto, .int .u8 p.s0, .int .u8 p.s1, .int .u8 p.s2, .int .u8 p.s3, .int .u8 p.d0, .int .u8 p.d1, .int .u8 p.d2, .int .u8 p.d3, .string p.data]) rfl rfl) (fun b1 _ => ?_)
  refine L_v (opv_assign rfl) rfl ?_
  refine L_nil ?_
  refine K_then ?_
  refine J_seq ?_
  refine J_seq ?_
  refine J_region ?_
  first
    | refine L_v (opv_fieldAddr0 rfl) rfl ?_
    | refine L_v (opv_fieldAddr rfl) rfl ?_
  refine L_v (opv_load rfl (Rd.look rfl)) rfl ?_
  first
    | refine L_v (opv_lenL rfl) rfl ?_
    | refine L_v (opv_lenS rfl) rfl ?_
  refine L_v ((opv_gtr rfl rfl).bool_t (by omega)) rfl ?_
  refine L_nil ?_
  refine K_then ?_
  refine J_cond_true rfl ?_
  refine J_seq ?_
  refine J_region ?_
  refine L_x rfl (opx_call0 (pawake_spec) rfl rfl rfl) (fun _ _ => ?_)
  refine L_emp ?_
  refine L_v (opv_assign rfl) rfl ?_
  refine L_nil ?_
  refine K_then ?_
  refine J_ret ?_
  refine K_then_ret ?_
  exact K_ret1 rfl rfl () trivial (rfl) Ent.take

set_option maxHeartbeats 800000 in
theorem PP_ok (W : World) (p : Pk) (hp : okPk p) (h : p.data.size ≤ 5000) : FSpec Try.prog 13 #[.agg [.int .i64 p.id, .bool p.more, .int .i64 p.off, .int .i64 p.ttl, .int .i64 p.proto, .int .u8 p.s0, .int .u8 p.s1, .int .u8 p.s2, .int .u8 p.s3, .int .u8 p.d0, .int .u8 p.d1, .int .u8 p.d2, .int .u8 p.d3, .string p.data].toArray] (old W) (fun _ : Unit => True) (fun _ => .bool true) (fun _ => old W) := by
  refine FSpec.enter' Try.func13 rfl Try.ntmps13 rfl fun σ F => ?_
  refine J_seq ?_
  refine J_region ?_
  refine L_x rfl (opx_box (l := [.int .i64 p.id, .bool p.more, .int .i64 p.off, .int .i64 p.ttl, .int .i64 p.proto, .int .u8 p.s0, .int .u8 p.s1, .int .u8 p.s2, .int .u8 p.s3, .int .u8 p.d0, .int .u8 p.d1, .int .u8 p.d2, .int .u8 p.d3, .string p.data]) rfl rfl) (fun b1 _ => ?_)
  refine L_v (opv_assign rfl) rfl ?_
  refine L_nil ?_
  refine K_then ?_
  refine J_seq ?_
  refine J_seq ?_
  refine J_region ?_
  first
    | refine L_v (opv_fieldAddr0 rfl) rfl ?_
    | refine L_v (opv_fieldAddr rfl) rfl ?_
  refine L_v (opv_load rfl (Rd.look rfl)) rfl ?_
  first
    | refine L_v (opv_lenL rfl) rfl ?_
    | refine L_v (opv_lenS rfl) rfl ?_
  refine L_v ((opv_gtr rfl rfl).bool_f (by omega)) rfl ?_
  refine L_nil ?_
  refine K_then ?_
  refine J_cond_false rfl ?_
  refine J_skip ?_
  refine K_then ?_
  refine J_seq ?_
  refine J_region ?_
  refine L_v (opv_loadS rfl) rfl ?_
  refine L_x rfl (opx_call0 (Ip4Encode_any p hp (by omega)) rfl rfl rfl) (fun _ _ => ?_)
  refine L_emp ?_
  refine L_v (opv_move rfl) rfl ?_
  refine L_v (opv_extract rfl rfl) rfl ?_
  refine L_v (opv_extract rfl rfl) rfl ?_
  refine L_v (opv_assign rfl) rfl ?_
  refine L_v (opv_assign rfl) rfl ?_
  refine L_nil ?_
  refine K_then ?_
  refine J_seq ?_
  refine J_seq ?_
  refine J_region ?_
  refine L_v (opv_move rfl) rfl ?_
  first
    | refine L_v (opv_neq rfl rfl) rfl ?_
    | refine L_v (opv_neqS rfl rfl) rfl ?_
    | refine L_v (opv_neqNil rfl rfl) rfl ?_
    | refine L_v (opv_neqB rfl rfl) rfl ?_
  refine L_nil ?_
  refine K_then ?_
  refine J_cond rfl (fun h1 => ?_) (fun h1 => ?_)
  · refine J_seq ?_
    refine J_region ?_
    refine L_v (opv_move rfl) rfl ?_
    refine L_v ((opv_eqlS rfl rfl).bool_t (encP_bad (by assumption))) rfl ?_
    refine L_v (opv_move rfl) rfl ?_
    refine L_gon rfl rfl rfl ?_
    refine L_x rfl (opx_call0 (pawake_spec) rfl rfl rfl) (fun _ _ => ?_)
    refine L_emp ?_
    first
      | refine L_v (opv_pick_tt rfl rfl) rfl ?_
      | refine L_v (opv_pick_ff rfl rfl) rfl ?_
      | refine L_v (opv_pick rfl rfl rfl) rfl ?_
    refine L_v (opv_assign rfl) rfl ?_
    refine L_nil ?_
    refine K_then ?_
    refine J_ret ?_
    refine K_then_ret ?_
    exact K_ret1 rfl rfl () trivial (rfl) Ent.take
  · obtain ⟨hn, hl, he⟩ := encP_ok (p := p) h1
    have hsz := pkt_size p
    have hw2 := pkt_word2 p hl
    have hw4 := pkt_word4 p hn
    have hid := hn.1
    refine J_skip ?_
    refine K_then ?_
    refine J_seq ?_
    refine J_seq ?_
    rw [he]
    dsimp only
    refine J_region ?_
    refine L_v (opv_move rfl) rfl ?_
    first
      | refine L_v (opv_lenL rfl) rfl ?_
      | refine L_v (opv_lenS rfl) rfl ?_
    refine L_v ((opv_lss rfl rfl).bool_f (by omega)) rfl ?_
    refine L_nil ?_
    refine K_then ?_
    refine J_cond_false rfl ?_
    refine J_skip ?_
    refine K_then ?_
    refine J_seq ?_
    refine J_quiet Try.mixed (by kernel_rfl) ?_
    refine Q_v (opv_move rfl) rfl ?_
    refine Q_v ((opv_indexS rfl rfl (by omega)).as (v' := .int .u8 (byt (pkt p) 2)) rfl) rfl ?_
    refine Q_v (opv_convW rfl (Go.IntWalk.i64_in _ (by have := byt_lt (pkt p) 2; have := byt_ge (pkt p) 2; omega))) rfl ?_
    refine Q_v (opv_mul64 rfl rfl (by have := byt_lt (pkt p) 2; have := byt_ge (pkt p) 2; omega)) rfl ?_
    refine Q_v (opv_move rfl) rfl ?_
    refine Q_v ((opv_indexS rfl rfl (by omega)).as (v' := .int .u8 (byt (pkt p) 3)) rfl) rfl ?_
    refine Q_v (opv_convW rfl (Go.IntWalk.i64_in _ (by have := byt_lt (pkt p) 3; have := byt_ge (pkt p) 3; omega))) rfl ?_
    refine Q_v ((opv_add64 rfl rfl (by have := byt_lt (pkt p) 2; have := byt_ge (pkt p) 2; have := byt_lt (pkt p) 3; have := byt_ge (pkt p) 3; omega)).as (v' := .int .i64 ((pkt p).size : Nat)) (congrArg (Value.int .i64) (by have g1 := byt_bn (pkt p) 2; have g2 := byt_bn (pkt p) 3; have e : word (pkt p) 2 = bn (pkt p) 2 * 256 + bn (pkt p) 3 := word_eq5 (pkt p) 2; have := hw2; omega))) rfl ?_
    refine Q_v (opv_move rfl) rfl ?_
    first
      | refine Q_v (opv_lenL rfl) rfl ?_
      | refine Q_v (opv_lenS rfl) rfl ?_
    refine Q_v ((opv_eql rfl rfl).bool_t rfl) rfl ?_
    refine Q_v (opv_move rfl) rfl ?_
    refine Q_gon rfl rfl rfl ?_
    refine Q_v (opv_move rfl) rfl ?_
    refine Q_gon rfl rfl rfl ?_
    refine Q_v ((opv_sliceSlo rfl rfl (by omega)).as (v' := .string p.data) ((congrArg (fun k => Value.string ((pkt p).extract k (pkt p).size)) (show Int.toNat 20 = 20 from rfl)).trans (congrArg Value.string (pkt_data p)))) rfl ?_
    refine Q_gon rfl rfl rfl ?_
    first
      | refine Q_v (opv_fieldAddr0 rfl) rfl ?_
      | refine Q_v (opv_fieldAddr rfl) rfl ?_
    refine Q_gon rfl rfl rfl ?_
    refine Q_v (opv_load rfl (Rd.look rfl)) rfl ?_
    refine Q_gon rfl rfl rfl ?_
    refine Q_v ((opv_eqlS rfl rfl).bool_t rfl) rfl ?_
    first
      | refine Q_v (opv_pick_tt rfl rfl) rfl ?_
      | refine Q_v (opv_pick_ff rfl rfl) rfl ?_
      | refine Q_v (opv_pick rfl rfl rfl) rfl ?_
    refine Q_v (opv_move rfl) rfl ?_
    refine Q_gon rfl rfl rfl ?_
    refine Q_v (opv_move rfl) rfl ?_
    refine Q_gon rfl rfl rfl ?_
    refine Q_v ((opv_sliceS rfl rfl rfl (by omega)).as (v' := .string (bytesL [p.s0, p.s1, p.s2, p.s3])) ((congr (congrArg (fun k l => Value.string ((pkt p).extract k l)) (show Int.toNat 12 = 12 from rfl)) (show Int.toNat 16 = 16 from rfl)).trans (congrArg Value.string (pkt_src p)))) rfl ?_
    refine Q_gon rfl rfl rfl ?_
    first
      | refine Q_v (opv_fieldAddr0 rfl) rfl ?_
      | refine Q_v (opv_fieldAddr rfl) rfl ?_
    refine Q_gon rfl rfl rfl ?_
    refine Q_v (opv_loadS rfl) rfl ?_
    refine Q_gon rfl rfl rfl ?_
    refine Q_call (ip05_spec p.s0 p.s1 p.s2 p.s3 hp.src) rfl rfl (fun _ _ => rfl) (fun _ _ => Ent.refl _) rfl ?_
    refine Q_gon rfl rfl rfl ?_
    refine Q_v ((opv_eqlS rfl rfl).bool_t rfl) rfl ?_
    first
      | refine Q_v (opv_pick_tt rfl rfl) rfl ?_
      | refine Q_v (opv_pick_ff rfl rfl) rfl ?_
      | refine Q_v (opv_pick rfl rfl rfl) rfl ?_
    refine Q_v (opv_move rfl) rfl ?_
    refine Q_gon rfl rfl rfl ?_
    refine Q_v (opv_move rfl) rfl ?_
    refine Q_gon rfl rfl rfl ?_
    refine Q_v ((opv_sliceS rfl rfl rfl (by omega)).as (v' := .string (bytesL [p.d0, p.d1, p.d2, p.d3])) ((congr (congrArg (fun k l => Value.string ((pkt p).extract k l)) (show Int.toNat 16 = 16 from rfl)) (show Int.toNat 20 = 20 from rfl)).trans (congrArg Value.string (pkt_dst p)))) rfl ?_
    refine Q_gon rfl rfl rfl ?_
    first
      | refine Q_v (opv_fieldAddr0 rfl) rfl ?_
      | refine Q_v (opv_fieldAddr rfl) rfl ?_
    refine Q_gon rfl rfl rfl ?_
    refine Q_v (opv_loadS rfl) rfl ?_
    refine Q_gon rfl rfl rfl ?_
    refine Q_call (ip05_spec p.d0 p.d1 p.d2 p.d3 hp.dst) rfl rfl (fun _ _ => rfl) (fun _ _ => Ent.refl _) rfl ?_
    refine Q_gon rfl rfl rfl ?_
    refine Q_v ((opv_eqlS rfl rfl).bool_t rfl) rfl ?_
    first
      | refine Q_v (opv_pick_tt rfl rfl) rfl ?_
      | refine Q_v (opv_pick_ff rfl rfl) rfl ?_
      | refine Q_v (opv_pick rfl rfl rfl) rfl ?_
    refine Q_v (opv_move rfl) rfl ?_
    refine Q_gon rfl rfl rfl ?_
    refine Q_v (opv_move rfl) rfl ?_
    refine Q_gon rfl rfl rfl ?_
    refine Q_v ((opv_indexS rfl rfl (by omega)).as (v' := .int .u8 (byt (pkt p) 4)) rfl) rfl ?_
    refine Q_gon rfl rfl rfl ?_
    refine Q_v (opv_convW rfl (Go.IntWalk.i64_in _ (by have := byt_lt (pkt p) 4; have := byt_ge (pkt p) 4; omega))) rfl ?_
    refine Q_gon rfl rfl rfl ?_
    refine Q_v (opv_mul64 rfl rfl (by have := byt_lt (pkt p) 4; have := byt_ge (pkt p) 4; omega)) rfl ?_
    refine Q_gon rfl rfl rfl ?_
    refine Q_v (opv_move rfl) rfl ?_
    refine Q_gon rfl rfl rfl ?_
    refine Q_v ((opv_indexS rfl rfl (by omega)).as (v' := .int .u8 (byt (pkt p) 5)) rfl) rfl ?_
    refine Q_gon rfl rfl rfl ?_
    refine Q_v (opv_convW rfl (Go.IntWalk.i64_in _ (by have := byt_lt (pkt p) 5; have := byt_ge (pkt p) 5; omega))) rfl ?_
    refine Q_gon rfl rfl rfl ?_
    refine Q_v ((opv_add64 rfl rfl (by have := byt_lt (pkt p) 4; have := byt_ge (pkt p) 4; have := byt_lt (pkt p) 5; have := byt_ge (pkt p) 5; omega)).as (v' := .int .i64 p.id) (congrArg (Value.int .i64) (by have g1 := byt_bn (pkt p) 4; have g2 := byt_bn (pkt p) 5; have e : word (pkt p) 4 = bn (pkt p) 4 * 256 + bn (pkt p) 5 := word_eq5 (pkt p) 4; have := hw4; omega))) rfl ?_
    refine Q_gon rfl rfl rfl ?_
    first
      | refine Q_v (opv_fieldAddr0 rfl) rfl ?_
      | refine Q_v (opv_fieldAddr rfl) rfl ?_
    refine Q_gon rfl rfl rfl ?_
    refine Q_v (opv_load rfl (Rd.look rfl)) rfl ?_
    refine Q_gon rfl rfl rfl ?_
    refine Q_v ((opv_eql rfl rfl).bool_t rfl) rfl ?_
    first
      | refine Q_v (opv_pick_tt rfl rfl) rfl ?_
      | refine Q_v (opv_pick_ff rfl rfl) rfl ?_
      | refine Q_v (opv_pick rfl rfl rfl) rfl ?_
    refine Q_v (opv_move rfl) rfl ?_
    refine Q_gon rfl rfl rfl ?_
    refine Q_call (pawake_spec) rfl rfl (fun _ _ => rfl) (fun _ _ => Ent.refl _) rfl ?_
    first
      | refine Q_v (opv_pick_tt rfl rfl) rfl ?_
      | refine Q_v (opv_pick_ff rfl rfl) rfl ?_
      | refine Q_v (opv_pick rfl rfl rfl) rfl ?_
    refine Q_v (opv_assign rfl) rfl ?_
    refine QL_nil ?_
    refine K_then ?_
    refine J_ret ?_
    exact K_ret1 rfl rfl () trivial (rfl) Ent.take

theorem Ipv4Parts_law (W : World) (p : Pk) (hp : okPk p) : FSpec Try.prog 13 #[.agg (encPk p).toArray] (old W) (fun _ : Unit => True) (fun _ => .bool true) (fun _ => old W) := by
  by_cases hd : 5000 < p.data.size
  · exact PP_big W p hd
  · exact PP_ok W p hp (by omega)

end Go.Proofs.Ytkkomlcjcgdbeaa
namespace Go.Proofs.Ytkkomlcjcgdbeaa.ipv4Parts
open Go.ChangeShapes Go.WideShapes Go.ChangeAt Go.RowKit Go.SLA
open Go.ChangeMaps (open_string shut_string)
set_option linter.unusedVariables false
theorem own : ownKnob Try.prog.godebug = none := by kernel_rfl
theorem laidOut : laidOutB Try.prog = true := by kernel_rfl
set_option maxRecDepth 100000 in
theorem lifted (os : Os) (started : os.Started) (H : Type) (enc : TypeId × Value → H) :
    ReturnsInHanded {} Try.checked os 13 .any (Rows.ipv4PartsSpec.pre6 enc Try.prog Try.f13 Rows.ipv4PartsRow.domain false) (Rows.ipv4PartsSpec.post enc Try.prog Try.f13 false true false false) := by
  refine returnsInHanded_of_change_sized (C := Try.checked) own started (by kernel_rfl) Try.func13
    (ChangeSpec.witness6 (enc := enc) (C := Try.checked) false ⟨#[], #[.agg (encPk pkz).toArray], []⟩ 8 (by kernel_rfl) (by kernel_rfl) (by kernel_rfl) (by kernel_rfl)) ?_
  intro W base args ds gs before hval0 hW hcnd hsz0 _
  have hsz : (DataW.weightsEach Try.prog (Try.f13.params.toList ++ Rows.ipv4PartsSpec.plain.varTypes Try.prog) (ds ++ gs)).all (· ≤ reachBytes) = true := hsz0
  have hval : ∀ (j : Nat) t v, Try.f13.params[j]? = some t → args[j]? = some v → Value.okWide Try.prog W .any base t v := hval0
  have hW' := hW
  obtain ⟨p, q, hA0, hV, rfl, hfz, hnd⟩ := hW
  have hA : DataW.TrodAll enc Try.prog W 0 (fun _ => true) true Try.f13.params.toList args.toList ds p := hA0
  rw [Try.params13] at hA hval hsz
  obtain ⟨v0, vs0, d0, ds0, p0, q0, hargs, rfl, rfl, h0, r0⟩ := trodAll_cons hA
  obtain ⟨rfl, rfl, rfl⟩ := trodAll_nil r0
  obtain rfl : args = #[v0] := by cases args; simp_all
  obtain ⟨rfl, rfl⟩ := trodVars_none hV
  have k0 := h0
  have lt0 : ∀ x ∈ p0, x.block < W.heap.size := by obtain ⟨m, hm⟩ := k0; exact DataW.trod_lt m _ _ _ hm
  obtain ⟨l0, rfl, g0⟩ := open_flat (D := 5) (ks := ksPk) (by kernel_rfl) (by kernel_rfl) (hval 0 41 v0 rfl rfl) h0
  obtain ⟨x0, rfl, ok0⟩ := decPk l0 g0
  clear hA0 hval0 hsz0 hsz
  refine (FSpec.law (Ipv4Parts_law W x0 ok0)).mono fun e W' ⟨he, bel⟩ => ?_
  subst he
  exact ⟨_, rfl, _, _, _, [], _, [], hW', trodAll_mk1 (shut_bool Try.underlying4 _), (trodAll_cons_mk (Below.trod laidOut (by kernel_rfl) (of_decide_eq_true (by kernel_rfl)) k0 bel lt0) trodAll_mk0), rfl, bel.frame _, fun h => by cases h⟩
theorem over : Rows.ipv4PartsRow.holds Try.pinned (OpenSpec.ofChange Rows.ipv4PartsSpec) :=
  OpenClaim.holds_of_wide 13 Try.f13 rfl rfl rfl rfl rfl rfl rfl ⟨rfl, rfl, rfl, rfl, rfl⟩ rfl rfl rfl rfl rfl (by kernel_rfl) Try.func13 (by kernel_rfl)
    (of_decide_eq_true (by kernel_rfl)) (by unfold Func.isWrapper; first | (rw [if_pos (by decide +kernel)]; kernel_rfl) | (rw [if_neg (by decide +kernel)]; exact ⟨rfl, rfl⟩))
    (fun os started H enc _ => lifted os started H enc)
end Go.Proofs.Ytkkomlcjcgdbeaa.ipv4Parts
namespace Go.Proofs.Ytkkomlcjcgdbeaa
theorem ipv4Parts_holds : Rows.Ipv4PartsSaid := ipv4Parts.over
#print axioms ipv4Parts_holds
end Go.Proofs.Ytkkomlcjcgdbeaa
namespace Go.Proofs.Ytkkomlcjcgdbeaa
open Go.SLA
end Go.Proofs.Ytkkomlcjcgdbeaa
