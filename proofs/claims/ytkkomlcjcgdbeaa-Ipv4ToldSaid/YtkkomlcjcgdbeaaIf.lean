/- The law IcmpBack of the package pitotlaw07 holds for every input: what was encoded is decoded, and what is decoded is encoded as the same bytes. No condition. -/
import Derived.Test.YtkkomlcjcgdbeaaIe
import Derived.Test.YtkkomlcjcgdbeaaV
import Derived.Test.YtkkomlcjcgdbeaaH
namespace Go.Proofs.Ytkkomlcjcgdbeaa
open Go.SLA
set_option maxRecDepth 100000
set_option linter.unusedVariables false
set_option linter.unusedSimpArgs false
attribute [local irreducible] J L K QL Rg FSpec OpV OpX Rd Back

/-- What Encode answers. -/
def encI (x : Ec) : ByteArray × Int := if ¬ numsB x then (ByteArray.empty, 1) else if 64 < x.text.size then (ByteArray.empty, 11) else (echo x, 0)
theorem Encode_any (x : Ec) (hx : okEc x) (ht : x.text.size ≤ 140737488351232) : FSpec Try.prog 15 #[.agg (encEc x).toArray] emp (fun _ : Unit => True) (fun _ => .tuple #[.string (encI x).1, .int .i64 (encI x).2]) (fun _ => emp) := by
  unfold encI
  by_cases h : numsB x
  · rw [if_neg (fun n => n h)]
    by_cases hl : 64 < x.text.size
    · rw [if_pos hl]; exact Encode_long x hx h hl ht
    · rw [if_neg hl]; exact Encode_ok x hx h (by omega)
  · rw [if_pos h]; exact Encode_bad x hx h ht
theorem encI_ok {x : Ec} (h : (encI x).2 = 0) : numsB x ∧ x.text.size ≤ 64 ∧ (encI x).1 = echo x := by
  unfold encI at h ⊢
  split at h
  · cases h
  · rename_i hn
    rw [if_neg hn]
    split at h
    · cases h
    · rename_i hl
      rw [if_neg hl]
      exact ⟨Classical.not_not.1 hn, by omega, rfl⟩
theorem encI_yes {x : Ec} (h : numsB x) (hl : x.text.size ≤ 64) : encI x = (echo x, 0) := by unfold encI; rw [if_neg (fun n => n h), if_neg (by omega)]
theorem echoT_word0 (x : Ec) (n : Nat) : word (echoT x n) 0 = kindN x * 256 := by
  have hk : kindN x < 256 := by unfold kindN; split <;> decide
  have h0 : bn (be (kindN x) 1) 0 = kindN x := by rw [bn_be0]; omega
  have h1 : bn (be 0 1) 0 = 0 := by rw [bn_be0]
  unfold word echoT
  rw [bn_app_l (by simp only [ByteArray.size_append, be_size]; omega), bn_app_l (by simp only [ByteArray.size_append, be_size]; omega), bn_app_l (by simp only [ByteArray.size_append, be_size]; omega), bn_app_l (by simp only [ByteArray.size_append, be_size]; omega), bn_app_l (by simp only [be_size]; omega), h0,
    bn_app_l (by simp only [ByteArray.size_append, be_size]; omega), bn_app_l (by simp only [ByteArray.size_append, be_size]; omega), bn_app_l (by simp only [ByteArray.size_append, be_size]; omega), bn_app_l (by simp only [ByteArray.size_append, be_size]; omega), bn_app_r (by simp only [be_size]; omega), be_size, h1]
  omega
theorem echoT_word4 (x : Ec) (n : Nat) (h : numsB x) : word (echoT x n) 4 = x.id.toNat := by
  unfold numsB at h
  unfold echoT
  rw [word_app_l (by simp only [ByteArray.size_append, be_size]; omega), word_app_l (by simp only [ByteArray.size_append, be_size]; omega), word_app_r (by simp only [ByteArray.size_append, be_size]; omega)]
  simp only [ByteArray.size_append, be_size]
  exact word_be (by omega)
theorem echoT_word6 (x : Ec) (n : Nat) (h : numsB x) : word (echoT x n) 6 = x.seq.toNat := by
  unfold numsB at h
  unfold echoT
  rw [word_app_l (by simp only [ByteArray.size_append, be_size]; omega), word_app_r (by simp only [ByteArray.size_append, be_size]; omega)]
  simp only [ByteArray.size_append, be_size]
  exact word_be (by omega)
theorem echoT_rest (x : Ec) (n : Nat) : (echoT x n).extract 8 (echoT x n).size = x.text := by
  have hz := echoT_size x n
  have e : (be (kindN x) 1 ++ be 0 1 ++ be n 2 ++ be x.id.toNat 2 ++ be x.seq.toNat 2).size = 8 := by simp only [ByteArray.size_append, be_size]
  rw [hz]
  unfold echoT
  exact ByteArray.extract_append_eq_right (by rw [e]) (by rw [e])
theorem decI_echo {x : Ec} (h : numsB x) (hl : x.text.size ≤ 64) : decI (echo x) = (x, 0) := by
  have hz : (echo x).size = 8 + x.text.size := echoT_size x _
  have h0 : word (echo x) 0 = kindN x * 256 := echoT_word0 x _
  have h4 : word (echo x) 4 = x.id.toNat := echoT_word4 x _ h
  have h6 : word (echo x) 6 = x.seq.toNat := echoT_word6 x _ h
  have h8 : (echo x).extract 8 (echo x).size = x.text := echoT_rest x _
  have hp : parse (echo x) = x := by
    unfold parse
    rw [h0, h4, h6, h8]
    unfold numsB at h
    have e1 : ((x.id.toNat : Nat) : Int) = x.id := by omega
    have e2 : ((x.seq.toNat : Nat) : Int) = x.seq := by omega
    rw [e1, e2]
    obtain ⟨r, i, q, t⟩ := x
    cases r <;> rfl
  have hk : kindN x = 0 ∨ kindN x = 8 := by unfold kindN; split <;> simp
  rw [decI_e (by omega) (by omega) (by omega) (by rw [hp]; exact fun n => n rfl), hp]
theorem decI_zero {s : ByteArray} (h : (decI s).2 ≠ 0) : (decI s).1 = ec0 := by
  unfold decI at h ⊢
  split at h
  · rename_i h1; rw [if_pos h1]
  · rename_i h1
    rw [if_neg h1]
    split at h
    · rename_i h2; rw [if_pos h2]
    · rename_i h2
      rw [if_neg h2]
      split at h
      · rename_i h3; rw [if_pos h3]
      · rename_i h3
        rw [if_neg h3]
        split at h
        · exact absurd rfl h
        · rename_i h4; rw [if_neg h4]
theorem decI_back {s : ByteArray} (h : ¬ (decI s).2 ≠ 0) : decI s = (parse s, 0) ∧ echo (parse s) = s ∧ s.size ≤ 72 ∧ (word s 0 = 0 ∨ word s 0 = 2048) := by
  unfold decI at h ⊢
  split at h
  · exact absurd (show (10 : Int) ≠ 0 by decide) h
  · rename_i h1
    rw [if_neg h1]
    split at h
    · exact absurd (show (11 : Int) ≠ 0 by decide) h
    · rename_i h2
      rw [if_neg h2]
      split at h
      · exact absurd (show (13 : Int) ≠ 0 by decide) h
      · rename_i h3
        rw [if_neg h3]
        split at h
        · rename_i h4
          rw [if_pos h4]
          exact ⟨rfl, h4, by omega, Classical.not_not.1 h3⟩
        · exact absurd (show (12 : Int) ≠ 0 by decide) h
theorem decI_enc {s : ByteArray} (h : ¬ (decI s).2 ≠ 0) : encI (decI s).1 = (s, 0) ∧ okEc (decI s).1 ∧ (decI s).1.text.size ≤ 64 := by
  obtain ⟨h1, h2, h3, _⟩ := decI_back h
  have h4 := parse_sz s
  rw [h1]
  exact ⟨by rw [encI_yes (parse_nb s) (by omega), h2], parse_ok h3, by show (parse s).text.size ≤ 64; omega⟩
attribute [local irreducible] be ones echoT echo word decI encI

theorem IB_big (W : World) (x : Ec) (s : ByteArray) (h : 1000 < s.size) : FSpec Try.prog 5 #[.agg (encEc x).toArray, .string s] (old W) (fun _ : Unit => True) (fun _ => .bool true) (fun _ => old W) := by
  refine FSpec.enter' Try.func5 rfl Try.ntmps5 rfl fun σ F => ?_
  refine J_seq ?_
  refine J_region ?_
  refine L_x rfl (opx_box (l := [.bool x.rep, .int .i64 x.id, .int .i64 x.seq, .string x.text]) rfl rfl) (fun b2 _ => ?_)
  refine L_v (opv_assign rfl) rfl ?_
  refine L_nil ?_
  refine K_then ?_
  refine J_seq ?_
  refine J_seq ?_
  refine J_region ?_
  refine L_v (opv_move rfl) rfl ?_
  first
    | refine L_v (opv_lenL rfl) rfl ?_
    | refine L_v (opv_lenS rfl) rfl ?_
  refine L_v ((opv_gtr rfl rfl).bool_t (by omega)) rfl ?_
  refine L_nil ?_
  refine K_then ?_
  refine J_cond_true rfl ?_
  refine J_seq ?_
  refine J_region ?_
  refine L_x rfl (opx_call0 (iawake_spec) rfl rfl rfl) (fun _ _ => ?_)
  refine L_emp ?_
  refine L_v (opv_assign rfl) rfl ?_
  refine L_nil ?_
  refine K_then ?_
  refine J_ret ?_
  refine K_then_ret ?_
  exact K_ret1 rfl rfl () trivial (rfl) Ent.take

theorem IB_ok (W : World) (x : Ec) (s : ByteArray) (hx : okEc x) (ht : x.text.size ≤ 140737488351232) (h : s.size ≤ 1000) : FSpec Try.prog 5 #[.agg (encEc x).toArray, .string s] (old W) (fun _ : Unit => True) (fun _ => .bool true) (fun _ => old W) := by
  refine FSpec.enter' Try.func5 rfl Try.ntmps5 rfl fun σ F => ?_
  refine J_seq ?_
  refine J_region ?_
  refine L_x rfl (opx_box (l := [.bool x.rep, .int .i64 x.id, .int .i64 x.seq, .string x.text]) rfl rfl) (fun b2 _ => ?_)
  refine L_v (opv_assign rfl) rfl ?_
  refine L_nil ?_
  refine K_then ?_
  refine J_seq ?_
  refine J_seq ?_
  refine J_region ?_
  refine L_v (opv_move rfl) rfl ?_
  first
    | refine L_v (opv_lenL rfl) rfl ?_
    | refine L_v (opv_lenS rfl) rfl ?_
  refine L_v ((opv_gtr rfl rfl).bool_f (by omega)) rfl ?_
  refine L_nil ?_
  refine K_then ?_
  refine J_cond_false rfl ?_
  refine J_skip ?_
  refine K_then ?_
  refine J_seq ?_
  refine J_region ?_
  refine L_v (opv_loadS rfl) rfl ?_
  refine L_x rfl (opx_call0 (Encode_any x hx ht) rfl rfl rfl) (fun _ _ => ?_)
  refine L_emp ?_
  refine L_v (opv_move rfl) rfl ?_
  refine L_v (opv_extract rfl rfl) rfl ?_
  refine L_v (opv_extract rfl rfl) rfl ?_
  refine L_v (opv_assign rfl) rfl ?_
  refine L_v (opv_assign rfl) rfl ?_
  refine L_nil ?_
  refine K_then ?_
  refine J_seq ?_
  refine J_seq ?_
  refine J_region ?_
  refine L_v (opv_move rfl) rfl ?_
  first
    | refine L_v (opv_eql rfl rfl) rfl ?_
    | refine L_v (opv_eqlS rfl rfl) rfl ?_
    | refine L_v (opv_eqlNil rfl rfl) rfl ?_
    | refine L_v (opv_eqlB rfl rfl) rfl ?_
  refine L_nil ?_
  refine K_then ?_
  refine J_cond rfl (fun h1 => ?_) (fun h1 => ?_)
  · obtain ⟨hn, hl, he⟩ := encI_ok h1
    have hd := decI_echo hn hl
    rw [← he] at hd
    refine J_seq ?_
    refine J_region ?_
    refine L_v (opv_move rfl) rfl ?_
    refine L_x rfl (opx_call0 (Decode_lit (encI x).1) rfl rfl rfl) (fun _ _ => ?_)
    refine L_emp ?_
    refine L_v (opv_move rfl) rfl ?_
    refine L_v (opv_extract (v := .agg [.bool (decI (encI x).1).1.rep, .int .i64 (decI (encI x).1).1.id, .int .i64 (decI (encI x).1).1.seq, .string (decI (encI x).1).1.text].toArray) rfl rfl) rfl ?_
    refine L_v (opv_extract rfl rfl) rfl ?_
    refine L_x rfl (opx_alloc rfl) (fun b7 _ => ?_)
    refine L_x rfl (opx_store rfl rfl rfl (by simp [Value.oneCell'])) (fun _ _ => ?_)
    refine L_v (opv_assign rfl) rfl ?_
    refine L_nil ?_
    refine K_then ?_
    refine J_seq ?_
    refine J_region ?_
    refine L_v (opv_move rfl) rfl ?_
    refine L_v ((opv_neq rfl rfl).bool_f (by rw [hd]; exact fun n => n rfl)) rfl ?_
    refine L_v (opv_move rfl) rfl ?_
    refine L_gon rfl rfl rfl ?_
    refine L_v (opv_loadS rfl) rfl ?_
    refine L_gon rfl rfl rfl ?_
    refine L_v (opv_loadS rfl) rfl ?_
    refine L_gon rfl rfl rfl ?_
    refine L_v ((opv_neqF rfl rfl (by simp [Shape, CK.sh]) (by simp [Shape, CK.sh])).bool_f (by rw [hd]; exact fun n => n rfl)) rfl ?_
    first
      | refine L_v (opv_pick_tt rfl rfl) rfl ?_
      | refine L_v (opv_pick_ff rfl rfl) rfl ?_
      | refine L_v (opv_pick rfl rfl rfl) rfl ?_
    refine L_nil ?_
    refine K_then ?_
    refine J_cond_false rfl ?_
    refine J_skip ?_
    refine K_then ?_
    refine J_seq ?_
    refine J_region ?_
    refine L_v (opv_move rfl) rfl ?_
    refine L_x rfl (opx_call0 (Decode_lit s) rfl rfl rfl) (fun _ _ => ?_)
    refine L_emp ?_
    refine L_v (opv_move rfl) rfl ?_
    refine L_v (opv_extract (v := .agg [.bool (decI s).1.rep, .int .i64 (decI s).1.id, .int .i64 (decI s).1.seq, .string (decI s).1.text].toArray) rfl rfl) rfl ?_
    refine L_v (opv_extract rfl rfl) rfl ?_
    refine L_x rfl (opx_alloc rfl) (fun b9 _ => ?_)
    refine L_x rfl (opx_store rfl rfl rfl (by simp [Value.oneCell'])) (fun _ _ => ?_)
    refine L_v (opv_assign rfl) rfl ?_
    refine L_nil ?_
    refine K_then ?_
    refine J_seq ?_
    refine J_seq ?_
    refine J_region ?_
    refine L_v (opv_move rfl) rfl ?_
    first
      | refine L_v (opv_neq rfl rfl) rfl ?_
      | refine L_v (opv_neqS rfl rfl) rfl ?_
      | refine L_v (opv_neqNil rfl rfl) rfl ?_
      | refine L_v (opv_neqB rfl rfl) rfl ?_
    refine L_nil ?_
    refine K_then ?_
    refine J_cond rfl (fun h2 => ?_) (fun h2 => ?_)
    · have hz := decI_zero h2
      refine J_seq ?_
      refine J_region ?_
      refine L_v (opv_loadS rfl) rfl ?_
      refine L_v (opv_build rfl) rfl ?_
      refine L_v ((opv_eqlF rfl rfl (by simp [Shape, CK.sh]) (by simp [Shape, CK.sh])).bool_t (by rw [hz]; rfl)) rfl ?_
      refine L_v (opv_move rfl) rfl ?_
      refine L_gon rfl rfl rfl ?_
      refine L_x rfl (opx_call0 (iawake_spec) rfl rfl rfl) (fun _ _ => ?_)
      refine L_emp ?_
      first
        | refine L_v (opv_pick_tt rfl rfl) rfl ?_
        | refine L_v (opv_pick_ff rfl rfl) rfl ?_
        | refine L_v (opv_pick rfl rfl rfl) rfl ?_
      refine L_v (opv_assign rfl) rfl ?_
      refine L_nil ?_
      refine K_then ?_
      refine J_ret ?_
      refine K_then_ret ?_
      exact K_ret1 rfl rfl () trivial (rfl) Ent.take
    · obtain ⟨he2, ho2, hs2⟩ := decI_enc h2
      refine J_skip ?_
      refine K_then ?_
      refine J_seq ?_
      refine J_region ?_
      refine L_v (opv_loadS rfl) rfl ?_
      refine L_x rfl (opx_call0 (Encode_any (decI s).1 ho2 (by omega)) rfl rfl rfl) (fun _ _ => ?_)
      refine L_emp ?_
      refine L_v (opv_move rfl) rfl ?_
      refine L_v (opv_extract rfl rfl) rfl ?_
      refine L_v (opv_extract rfl rfl) rfl ?_
      refine L_v (opv_assign rfl) rfl ?_
      refine L_v (opv_assign rfl) rfl ?_
      refine L_nil ?_
      refine K_then ?_
      refine J_seq ?_
      refine J_region ?_
      refine L_v (opv_move rfl) rfl ?_
      refine L_v ((opv_eql rfl rfl).bool_t (by rw [he2])) rfl ?_
      refine L_v (opv_move rfl) rfl ?_
      refine L_gon rfl rfl rfl ?_
      refine L_v (opv_move rfl) rfl ?_
      refine L_gon rfl rfl rfl ?_
      refine L_v (opv_move rfl) rfl ?_
      refine L_gon rfl rfl rfl ?_
      refine L_v ((opv_eqlS rfl rfl).bool_t (by rw [he2])) rfl ?_
      first
        | refine L_v (opv_pick_tt rfl rfl) rfl ?_
        | refine L_v (opv_pick_ff rfl rfl) rfl ?_
        | refine L_v (opv_pick rfl rfl rfl) rfl ?_
      refine L_v (opv_move rfl) rfl ?_
      refine L_gon rfl rfl rfl ?_
      refine L_x rfl (opx_call0 (iawake_spec) rfl rfl rfl) (fun _ _ => ?_)
      refine L_emp ?_
      first
        | refine L_v (opv_pick_tt rfl rfl) rfl ?_
        | refine L_v (opv_pick_ff rfl rfl) rfl ?_
        | refine L_v (opv_pick rfl rfl rfl) rfl ?_
      refine L_v (opv_assign rfl) rfl ?_
      refine L_nil ?_
      refine K_then ?_
      refine J_ret ?_
      exact K_ret1 rfl rfl () trivial (rfl) Ent.take
  · refine J_skip ?_
    refine K_then ?_
    refine J_seq ?_
    refine J_region ?_
    refine L_v (opv_move rfl) rfl ?_
    refine L_x rfl (opx_call0 (Decode_lit s) rfl rfl rfl) (fun _ _ => ?_)
    refine L_emp ?_
    refine L_v (opv_move rfl) rfl ?_
    refine L_v (opv_extract (v := .agg [.bool (decI s).1.rep, .int .i64 (decI s).1.id, .int .i64 (decI s).1.seq, .string (decI s).1.text].toArray) rfl rfl) rfl ?_
    refine L_v (opv_extract rfl rfl) rfl ?_
    refine L_x rfl (opx_alloc rfl) (fun b9 _ => ?_)
    refine L_x rfl (opx_store rfl rfl rfl (by simp [Value.oneCell'])) (fun _ _ => ?_)
    refine L_v (opv_assign rfl) rfl ?_
    refine L_nil ?_
    refine K_then ?_
    refine J_seq ?_
    refine J_seq ?_
    refine J_region ?_
    refine L_v (opv_move rfl) rfl ?_
    first
      | refine L_v (opv_neq rfl rfl) rfl ?_
      | refine L_v (opv_neqS rfl rfl) rfl ?_
      | refine L_v (opv_neqNil rfl rfl) rfl ?_
      | refine L_v (opv_neqB rfl rfl) rfl ?_
    refine L_nil ?_
    refine K_then ?_
    refine J_cond rfl (fun h3 => ?_) (fun h3 => ?_)
    · have hz := decI_zero h3
      refine J_seq ?_
      refine J_region ?_
      refine L_v (opv_loadS rfl) rfl ?_
      refine L_v (opv_build rfl) rfl ?_
      refine L_v ((opv_eqlF rfl rfl (by simp [Shape, CK.sh]) (by simp [Shape, CK.sh])).bool_t (by rw [hz]; rfl)) rfl ?_
      refine L_v (opv_move rfl) rfl ?_
      refine L_gon rfl rfl rfl ?_
      refine L_x rfl (opx_call0 (iawake_spec) rfl rfl rfl) (fun _ _ => ?_)
      refine L_emp ?_
      first
        | refine L_v (opv_pick_tt rfl rfl) rfl ?_
        | refine L_v (opv_pick_ff rfl rfl) rfl ?_
        | refine L_v (opv_pick rfl rfl rfl) rfl ?_
      refine L_v (opv_assign rfl) rfl ?_
      refine L_nil ?_
      refine K_then ?_
      refine J_ret ?_
      refine K_then_ret ?_
      exact K_ret1 rfl rfl () trivial (rfl) Ent.take
    · obtain ⟨he2, ho2, hs2⟩ := decI_enc h3
      refine J_skip ?_
      refine K_then ?_
      refine J_seq ?_
      refine J_region ?_
      refine L_v (opv_loadS rfl) rfl ?_
      refine L_x rfl (opx_call0 (Encode_any (decI s).1 ho2 (by omega)) rfl rfl rfl) (fun _ _ => ?_)
      refine L_emp ?_
      refine L_v (opv_move rfl) rfl ?_
      refine L_v (opv_extract rfl rfl) rfl ?_
      refine L_v (opv_extract rfl rfl) rfl ?_
      refine L_v (opv_assign rfl) rfl ?_
      refine L_v (opv_assign rfl) rfl ?_
      refine L_nil ?_
      refine K_then ?_
      refine J_seq ?_
      refine J_region ?_
      refine L_v (opv_move rfl) rfl ?_
      refine L_v ((opv_eql rfl rfl).bool_t (by rw [he2])) rfl ?_
      refine L_v (opv_move rfl) rfl ?_
      refine L_gon rfl rfl rfl ?_
      refine L_v (opv_move rfl) rfl ?_
      refine L_gon rfl rfl rfl ?_
      refine L_v (opv_move rfl) rfl ?_
      refine L_gon rfl rfl rfl ?_
      refine L_v ((opv_eqlS rfl rfl).bool_t (by rw [he2])) rfl ?_
      first
        | refine L_v (opv_pick_tt rfl rfl) rfl ?_
        | refine L_v (opv_pick_ff rfl rfl) rfl ?_
        | refine L_v (opv_pick rfl rfl rfl) rfl ?_
      refine L_v (opv_move rfl) rfl ?_
      refine L_gon rfl rfl rfl ?_
      refine L_x rfl (opx_call0 (iawake_spec) rfl rfl rfl) (fun _ _ => ?_)
      refine L_emp ?_
      first
        | refine L_v (opv_pick_tt rfl rfl) rfl ?_
        | refine L_v (opv_pick_ff rfl rfl) rfl ?_
        | refine L_v (opv_pick rfl rfl rfl) rfl ?_
      refine L_v (opv_assign rfl) rfl ?_
      refine L_nil ?_
      refine K_then ?_
      refine J_ret ?_
      exact K_ret1 rfl rfl () trivial (rfl) Ent.take

theorem IcmpBack_law (W : World) (x : Ec) (s : ByteArray) (hx : okEc x) (hz : SmallC (encEc x)) : FSpec Try.prog 5 #[.agg (encEc x).toArray, .string s] (old W) (fun _ : Unit => True) (fun _ => .bool true) (fun _ => old W) := by
  have ht : x.text.size ≤ 140737488351232 := hz x.text (by simp [encEc])
  by_cases h : 1000 < s.size
  · exact IB_big W x s h
  · exact IB_ok W x s hx ht (by omega)

end Go.Proofs.Ytkkomlcjcgdbeaa
namespace Go.Proofs.Ytkkomlcjcgdbeaa.icmpBack
open Go.ChangeShapes Go.WideShapes Go.ChangeAt Go.RowKit Go.SLA
open Go.ChangeMaps (open_string shut_string)
set_option linter.unusedVariables false
theorem own : ownKnob Try.prog.godebug = none := by kernel_rfl
theorem laidOut : laidOutB Try.prog = true := by kernel_rfl
set_option maxRecDepth 100000 in
theorem lifted (os : Os) (started : os.Started) (H : Type) (enc : TypeId × Value → H) :
    ReturnsInHanded {} Try.checked os 5 .any (Rows.icmpBackSpec.pre6 enc Try.prog Try.f5 Rows.icmpBackRow.domain false) (Rows.icmpBackSpec.post enc Try.prog Try.f5 false true false false) := by
  refine returnsInHanded_of_change_sized (C := Try.checked) own started (by kernel_rfl) Try.func5
    (ChangeSpec.witness6 (enc := enc) (C := Try.checked) false ⟨#[], #[.agg (encEc ec0).toArray, .string ByteArray.empty], []⟩ 8 (by kernel_rfl) (by kernel_rfl) (by kernel_rfl) (by kernel_rfl)) ?_
  intro W base args ds gs before hval0 hW hcnd hsz0 _
  have hsz : (DataW.weightsEach Try.prog (Try.f5.params.toList ++ Rows.icmpBackSpec.plain.varTypes Try.prog) (ds ++ gs)).all (· ≤ reachBytes) = true := hsz0
  have hval : ∀ (j : Nat) t v, Try.f5.params[j]? = some t → args[j]? = some v → Value.okWide Try.prog W .any base t v := hval0
  have hW' := hW
  obtain ⟨p, q, hA0, hV, rfl, hfz, hnd⟩ := hW
  have hA : DataW.TrodAll enc Try.prog W 0 (fun _ => true) true Try.f5.params.toList args.toList ds p := hA0
  rw [Try.params5] at hA hval hsz
  obtain ⟨v0, vs0, d0, ds0, p0, q0, hargs, rfl, rfl, h0, r0⟩ := trodAll_cons hA
  obtain ⟨v1, vs1, d1, ds1, p1, q1, rfl, rfl, rfl, h1, r1⟩ := trodAll_cons r0
  obtain ⟨rfl, rfl, rfl⟩ := trodAll_nil r1
  obtain rfl : args = #[v0, v1] := by cases args; simp_all
  obtain ⟨rfl, rfl⟩ := trodVars_none hV
  have k0 := h0
  have lt0 : ∀ x ∈ p0, x.block < W.heap.size := by obtain ⟨m, hm⟩ := k0; exact DataW.trod_lt m _ _ _ hm
  obtain ⟨l0, rfl, g0⟩ := open_flat (D := 5) (ks := ksEc) (by kernel_rfl) (by kernel_rfl) (hval 0 23 v0 rfl rfl) h0
  have z0 := small_flat (D := 5) (ks := ksEc) (j := 0) (t := 23) (by kernel_rfl) h0 hsz rfl rfl
  obtain ⟨x0, rfl, ok0⟩ := decEc l0 g0
  have k1 := h1
  have lt1 : ∀ x ∈ p1, x.block < W.heap.size := by obtain ⟨m, hm⟩ := k1; exact DataW.trod_lt m _ _ _ hm
  obtain ⟨a1, rfl, rfl, rfl, y1⟩ := open_string Try.underlying9 (hval 1 9 v1 rfl rfl) h1
  have z1 := sized_string hsz (j := 1) (t := 9) rfl rfl
  rw [Array.length_toList] at z1
  clear hA0 hval0 hsz0 hsz
  refine (FSpec.law (IcmpBack_law W x0 a1 ok0 z0)).mono fun e W' ⟨he, bel⟩ => ?_
  subst he
  exact ⟨_, rfl, _, _, _, [], _, [], hW', trodAll_mk1 (shut_bool Try.underlying4 _), (trodAll_cons_mk (Below.trod laidOut (by kernel_rfl) (of_decide_eq_true (by kernel_rfl)) k0 bel lt0) (trodAll_cons_mk (Below.trod laidOut (by kernel_rfl) (of_decide_eq_true (by kernel_rfl)) k1 bel lt1) trodAll_mk0)), rfl, bel.frame _, fun h => by cases h⟩
theorem over : Rows.icmpBackRow.holds Try.pinned (OpenSpec.ofChange Rows.icmpBackSpec) :=
  OpenClaim.holds_of_wide 5 Try.f5 rfl rfl rfl rfl rfl rfl rfl ⟨rfl, rfl, rfl, rfl, rfl⟩ rfl rfl rfl rfl rfl (by kernel_rfl) Try.func5 (by kernel_rfl)
    (of_decide_eq_true (by kernel_rfl)) (by unfold Func.isWrapper; first | (rw [if_pos (by decide +kernel)]; kernel_rfl) | (rw [if_neg (by decide +kernel)]; exact ⟨rfl, rfl⟩))
    (fun os started H enc _ => lifted os started H enc)
end Go.Proofs.Ytkkomlcjcgdbeaa.icmpBack
namespace Go.Proofs.Ytkkomlcjcgdbeaa
theorem icmpBack_holds : Rows.IcmpBackSaid := icmpBack.over
#print axioms icmpBack_holds
end Go.Proofs.Ytkkomlcjcgdbeaa
namespace Go.Proofs.Ytkkomlcjcgdbeaa
open Go.SLA
end Go.Proofs.Ytkkomlcjcgdbeaa
