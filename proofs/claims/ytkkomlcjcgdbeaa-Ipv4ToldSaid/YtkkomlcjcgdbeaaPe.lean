/- The laws Ipv4Decodes, Ipv4Back and Ipv4Again of the package pitotlaw05 hold for every input: which packet is at the front of bytes, or why there is none; what was encoded is decoded, whatever is behind it; what is decoded is encoded as the same bytes. No condition. -/
import Derived.Test.YtkkomlcjcgdbeaaPd
import Derived.Test.YtkkomlcjcgdbeaaH
namespace Go.Proofs.Ytkkomlcjcgdbeaa
open Go.SLA
set_option maxRecDepth 100000
set_option linter.unusedVariables false
set_option linter.unusedSimpArgs false
attribute [local irreducible] J L K QL Rg FSpec OpV OpX Rd Back

theorem bn_bytesL {l : List Int} {j : Nat} {v : Int} (h : l[j]? = some v) (hv : 0 ≤ v ∧ v < 256) : bn (bytesL l) j = v.toNat := by
  show ((l.map fun v => UInt8.ofNat v.toNat).toArray.toList.getD j 0).toNat = _
  rw [List.toList_toArray, List.getD_eq_getElem?_getD, List.getElem?_map, h]
  show (UInt8.ofNat v.toNat).toNat = _
  rw [UInt8.toNat_ofNat', Nat.mod_eq_of_lt (by omega)]
theorem hA_bytes (p : Pk) (n : Nat) : hA p n = bytesL [((69 / 256 ^ 0 % 256 : Nat) : Int), ((0 / 256 ^ 0 % 256 : Nat) : Int), ((n / 256 ^ 1 % 256 : Nat) : Int), ((n / 256 ^ 0 % 256 : Nat) : Int), ((p.id.toNat / 256 ^ 1 % 256 : Nat) : Int), ((p.id.toNat / 256 ^ 0 % 256 : Nat) : Int), ((partN p / 256 ^ 1 % 256 : Nat) : Int), ((partN p / 256 ^ 0 % 256 : Nat) : Int), ((p.ttl.toNat / 256 ^ 0 % 256 : Nat) : Int), ((p.proto.toNat / 256 ^ 0 % 256 : Nat) : Int)] := rfl
theorem hB_bytes (p : Pk) : hB p = bytesL [p.s0, p.s1, p.s2, p.s3, p.d0, p.d1, p.d2, p.d3] := rfl
theorem lit00 : (⟨#[0, 0]⟩ : ByteArray) = be 0 2 := rfl
theorem app_ext (s : ByteArray) {a b c : Nat} (h1 : a ≤ b) (h2 : b ≤ c) : s.extract a b ++ s.extract b c = s.extract a c := by rw [ByteArray.extract_append_extract, Nat.min_eq_left h1, Nat.max_eq_right h2]
theorem be1_ext {s : ByteArray} {i : Nat} (h : i + 1 ≤ s.size) : s.extract i (i + 1) = be (bn s i) 1 := by
  have := bn_lt s i
  refine bn_ext (by rw [ext_size _ _ _ h, be_size]; omega) fun j hj => ?_
  rw [ext_size _ _ _ h] at hj
  obtain rfl : j = 0 := by omega
  rw [bn_extract (by omega) h, bn_be0, Nat.add_zero]
  omega
theorem ext4 {s : ByteArray} {o : Nat} (h : o + 4 ≤ s.size) : s.extract o (o + 4) = bytesL [((bn s o : Nat) : Int), ((bn s (o + 1) : Nat) : Int), ((bn s (o + 2) : Nat) : Int), ((bn s (o + 3) : Nat) : Int)] := by
  have h0 := bn_lt s o
  have h1 := bn_lt s (o + 1)
  have h2 := bn_lt s (o + 2)
  have h3 := bn_lt s (o + 3)
  refine bn_ext (by rw [ext_size _ _ _ h, bytesL_size]; show o + 4 - o = 4; omega) fun j hj => ?_
  rw [ext_size _ _ _ h] at hj
  rw [bn_extract (by omega) h]
  rcases (show j = 0 ∨ j = 1 ∨ j = 2 ∨ j = 3 by omega) with rfl | rfl | rfl | rfl
  · rw [bn_bytesL (v := (bn s o : Nat)) rfl (by omega)]; rfl
  · rw [bn_bytesL (v := (bn s (o + 1) : Nat)) rfl (by omega)]; rfl
  · rw [bn_bytesL (v := (bn s (o + 2) : Nat)) rfl (by omega)]; rfl
  · rw [bn_bytesL (v := (bn s (o + 3) : Nat)) rfl (by omega)]; rfl
theorem decP_bad {s : ByteArray} (h : (decP s).2 ≠ 0) : (decP s).1 = pkz := by
  unfold decP at h ⊢
  (repeat' split) <;> first | rfl | skip
  all_goals (rename_i h1 h2 h3 h4 h5; exfalso; rw [if_neg h1, if_neg h2, if_neg h3, if_neg h4, if_neg h5] at h; exact h rfl)
theorem decP_good {s : ByteArray} (h : (decP s).2 = 0) : decP s = (parseP s, 0) ∧ 20 ≤ s.size ∧ bn s 0 = 69 ∧ bn s 1 = 0 ∧ 20 ≤ word s 2 ∧ word s 6 / 16384 % 4 = 0 ∧ word s 10 = ones (zeroed s) ∧ word s 2 ≤ s.size := by
  unfold decP at h ⊢
  split at h
  · cases h
  · rename_i h1
    split at h
    · cases h
    · rename_i h2
      split at h
      · cases h
      · rename_i h3
        split at h
        · cases h
        · rename_i h4
          split at h
          · cases h
          · rename_i h5
            rw [if_neg h1, if_neg h2, if_neg h3, if_neg h4, if_neg h5]
            exact ⟨rfl, by omega, by omega, by omega, by omega, by omega, Classical.not_not.1 h4, by omega⟩
theorem wfk8 {n : Nat} (h : n < 256) : (Lit.int .u8 (n : Int)).wf = true := by
  have : 0 ≤ (n : Int) ∧ (n : Int) ≤ 255 := by omega
  simpa [Lit.wf, IntKind.min, IntKind.max, IntKind.signed, IntKind.bits] using this
theorem parseP_ok (s : ByteArray) (hs : s.size ≤ 1000000) : okPk (parseP s) := by
  have h4 := word_lt s 4
  have h8 := bn_lt s 8
  have h9 := bn_lt s 9
  refine ⟨wfk ((word s 4 : Nat) : Int) (by omega), wfk ((word s 6 % 8192 : Nat) : Int) (by omega), wfk ((bn s 8 : Nat) : Int) (by omega), wfk ((bn s 9 : Nat) : Int) (by omega), wfk8 (bn_lt s 12), wfk8 (bn_lt s 13), wfk8 (bn_lt s 14), wfk8 (bn_lt s 15), wfk8 (bn_lt s 16), wfk8 (bn_lt s 17), wfk8 (bn_lt s 18), wfk8 (bn_lt s 19), ?_⟩
  show (s.extract 20 (word s 2)).size ≤ maxLen
  rw [ByteArray.size_extract]
  unfold maxLen
  omega
theorem parseP_fields (s : ByteArray) : fieldsB (parseP s) := by
  have h4 := word_lt s 4
  have h8 := bn_lt s 8
  have h9 := bn_lt s 9
  unfold fieldsB parseP
  dsimp only
  omega
theorem parseP_part {s : ByteArray} (h : word s 6 / 16384 % 4 = 0) : partN (parseP s) = word s 6 := by
  have h6 := word_lt s 6
  unfold partN parseP
  dsimp only
  rw [Int.toNat_natCast]
  by_cases hm : word s 6 / 8192 % 2 = 1
  · rw [decide_eq_true hm, if_pos rfl]; omega
  · rw [decide_eq_false hm, if_neg (by decide)]; omega
/-- What is decoded is encoded as the same bytes. -/
theorem decP_again {s : ByteArray} (h : (decP s).2 = 0) : pkt (parseP s) = s.extract 0 (word s 2) ∧ (parseP s).data.size + 20 = word s 2 := by
  obtain ⟨_, hs20, h69, h1, hw, hw6, hsum, hle⟩ := decP_good h
  have hd : (parseP s).data.size = word s 2 - 20 := ext_size s _ _ hle
  have hl2 := word_lt s 2
  have hA1 : hA (parseP s) (20 + (parseP s).data.size) = s.extract 0 10 := by
    unfold hA
    rw [parseP_part hw6, hd, show 20 + (word s 2 - 20) = word s 2 by omega]
    show be 69 1 ++ be 0 1 ++ be (word s 2) 2 ++ be (word s 4) 2 ++ be (word s 6) 2 ++ be (bn s 8) 1 ++ be (bn s 9) 1 = _
    have e0 : be 69 1 = s.extract 0 1 := by rw [be1_ext (by omega), h69]
    have e1 : be 0 1 = s.extract 1 2 := by rw [be1_ext (i := 1) (by omega), h1]
    have e2 : be (word s 2) 2 = s.extract 2 4 := (be_word (by omega) (by omega) rfl).symm
    have e4 : be (word s 4) 2 = s.extract 4 6 := (be_word (by have := word_lt s 4; omega) (by omega) rfl).symm
    have e6 : be (word s 6) 2 = s.extract 6 8 := (be_word (by have := word_lt s 6; omega) (by omega) rfl).symm
    have e8 : be (bn s 8) 1 = s.extract 8 9 := (be1_ext (by omega)).symm
    have e9 : be (bn s 9) 1 = s.extract 9 10 := (be1_ext (by omega)).symm
    rw [e0, e1, e2, e4, e6, e8, e9, app_ext s (by omega) (by omega), app_ext s (by omega) (by omega), app_ext s (by omega) (by omega), app_ext s (by omega) (by omega), app_ext s (by omega) (by omega), app_ext s (by omega) (by omega)]
  have hB1 : hB (parseP s) = s.extract 12 20 := by
    have a := ext4 (s := s) (o := 12) (by omega)
    have c := ext4 (s := s) (o := 16) (by omega)
    show bytesL [((bn s 12 : Nat) : Int), ((bn s 13 : Nat) : Int), ((bn s 14 : Nat) : Int), ((bn s 15 : Nat) : Int)] ++ bytesL [((bn s 16 : Nat) : Int), ((bn s 17 : Nat) : Int), ((bn s 18 : Nat) : Int), ((bn s 19 : Nat) : Int)] = _
    rw [← a, ← c]
    exact app_ext s (by omega) (by omega)
  have hz : h20 (parseP s) (20 + (parseP s).data.size) 0 = zeroed s := by
    unfold h20 zeroed
    rw [hA1, hB1, lit00]
  refine ⟨?_, by omega⟩
  have e10 : be (word s 10) 2 = s.extract 10 12 := (be_word (by have := word_lt s 10; omega) (by omega) rfl).symm
  unfold pkt
  rw [hz, ← hsum]
  unfold h20
  rw [hA1, hB1, e10]
  show s.extract 0 10 ++ s.extract 10 12 ++ s.extract 12 20 ++ s.extract 20 (word s 2) = _
  rw [app_ext s (by omega) (by omega), app_ext s (by omega) (by omega), app_ext s (by omega) (by omega)]
theorem hA_bn (p : Pk) (n : Nat) : bn (hA p n) 0 = 69 ∧ bn (hA p n) 1 = 0 ∧ bn (hA p n) 2 = n / 256 % 256 ∧ bn (hA p n) 3 = n % 256 ∧ bn (hA p n) 4 = p.id.toNat / 256 % 256 ∧ bn (hA p n) 5 = p.id.toNat % 256 ∧ bn (hA p n) 6 = partN p / 256 % 256 ∧ bn (hA p n) 7 = partN p % 256 ∧ bn (hA p n) 8 = p.ttl.toNat % 256 ∧ bn (hA p n) 9 = p.proto.toNat % 256 := by
  have key : ∀ (i m c : Nat), [((69 / 256 ^ 0 % 256 : Nat) : Int), ((0 / 256 ^ 0 % 256 : Nat) : Int), ((n / 256 ^ 1 % 256 : Nat) : Int), ((n / 256 ^ 0 % 256 : Nat) : Int), ((p.id.toNat / 256 ^ 1 % 256 : Nat) : Int), ((p.id.toNat / 256 ^ 0 % 256 : Nat) : Int), ((partN p / 256 ^ 1 % 256 : Nat) : Int), ((partN p / 256 ^ 0 % 256 : Nat) : Int), ((p.ttl.toNat / 256 ^ 0 % 256 : Nat) : Int), ((p.proto.toNat / 256 ^ 0 % 256 : Nat) : Int)][i]? = some ((m / 256 ^ c % 256 : Nat) : Int) → bn (hA p n) i = m / 256 ^ c % 256 := fun i m c h => by
    rw [hA_bytes, bn_bytesL h (by have := Nat.mod_lt (m / 256 ^ c) (show 0 < 256 by decide); omega), Int.toNat_natCast]
  have k1 := fun m => show m / 256 ^ 0 % 256 = m % 256 by rw [Nat.pow_zero, Nat.div_one]
  have k2 := fun m => show m / 256 ^ 1 % 256 = m / 256 % 256 by rw [Nat.pow_one]
  refine ⟨(key 0 69 0 rfl).trans (k1 _), (key 1 0 0 rfl).trans (k1 _), (key 2 _ 1 rfl).trans (k2 _), (key 3 _ 0 rfl).trans (k1 _), (key 4 _ 1 rfl).trans (k2 _), (key 5 _ 0 rfl).trans (k1 _), (key 6 _ 1 rfl).trans (k2 _), (key 7 _ 0 rfl).trans (k1 _), (key 8 _ 0 rfl).trans (k1 _), (key 9 _ 0 rfl).trans (k1 _)⟩
theorem hB_bn {p : Pk} (hp : okPk p) : ((bn (hB p) 0 : Nat) : Int) = p.s0 ∧ ((bn (hB p) 1 : Nat) : Int) = p.s1 ∧ ((bn (hB p) 2 : Nat) : Int) = p.s2 ∧ ((bn (hB p) 3 : Nat) : Int) = p.s3 ∧ ((bn (hB p) 4 : Nat) : Int) = p.d0 ∧ ((bn (hB p) 5 : Nat) : Int) = p.d1 ∧ ((bn (hB p) 6 : Nat) : Int) = p.d2 ∧ ((bn (hB p) 7 : Nat) : Int) = p.d3 := by
  have key : ∀ (i : Nat) (v : Int), [p.s0, p.s1, p.s2, p.s3, p.d0, p.d1, p.d2, p.d3][i]? = some v → 0 ≤ v ∧ v < 256 → ((bn (hB p) i : Nat) : Int) = v := fun i v h hv => by rw [hB_bytes, bn_bytesL h hv]; omega
  have hsrc := hp.src
  have hdst := hp.dst
  refine ⟨key 0 _ rfl (hsrc _ ?_), key 1 _ rfl (hsrc _ ?_), key 2 _ rfl (hsrc _ ?_), key 3 _ rfl (hsrc _ ?_), key 4 _ rfl (hdst _ ?_), key 5 _ rfl (hdst _ ?_), key 6 _ rfl (hdst _ ?_), key 7 _ rfl (hdst _ ?_)⟩ <;> first | (unfold Pk.src; simp) | (unfold Pk.dst; simp)
theorem word_of {s : ByteArray} {i n : Nat} (h : n < 65536) (h0 : bn s i = n / 256 % 256) (h1 : bn s (i + 1) = n % 256) : word s i = n := by
  have := word_nat s i
  omega
section
attribute [local irreducible] be ones word zeroed pkt hA hB bytesL bn
/-- What was encoded is decoded, whatever is behind it. -/
theorem decP_pkt {p : Pk} (hp : okPk p) (h : fieldsB p) (hd : p.data.size ≤ 65515) (rest : ByteArray) : decP (pkt p ++ rest) = (p, 0) := by
  have hz := pkt_size p
  have hsz : (pkt p ++ rest).size = 20 + p.data.size + rest.size := by rw [ByteArray.size_append, hz]
  have hza := hA_size p (20 + p.data.size)
  have hzb := hB_size p
  have hsrc := hp.src
  have hdst := hp.dst
  unfold fieldsB at h
  have hpart : partN p ≤ 16383 ∧ partN p % 8192 = p.off.toNat ∧ (partN p / 8192 % 2 = 1 ↔ p.more = true) := by
    unfold partN
    cases hm : p.more with
    | true => rw [if_pos rfl]; refine ⟨by omega, by omega, fun _ => rfl, fun _ => by omega⟩
    | false => rw [if_neg (by decide)]; refine ⟨by omega, by omega, fun n => by omega, fun n => by cases n⟩
  have bA : ∀ i, i < 10 → bn (pkt p ++ rest) i = bn (hA p (20 + p.data.size)) i := fun i hi => by rw [bn_app_l (by omega), pkt_app, bn_app_l (by omega)]
  have hA' := hA_bn p (20 + p.data.size)
  have bB : ∀ i, i < 8 → bn (pkt p ++ rest) (12 + i) = bn (hB p) i := fun i hi => by
    rw [bn_app_l (by omega), pkt_app, bn_app_r (by omega), hza, bn_app_r (by rw [be_size]; omega), be_size, bn_app_l (by omega), show 12 + i - 10 - 2 = i by omega]
  have hB' := hB_bn hp
  have w10 : word (pkt p ++ rest) 10 = ones (h20 p (20 + p.data.size) 0) := by
    rw [word_app_l (by omega), pkt_app, word_app_r (by omega), hza, word_app_l (by rw [be_size]; decide)]
    exact word_be (ones_le _)
  have eA : (pkt p ++ rest).extract 0 10 = hA p (20 + p.data.size) := by
    rw [pkt_app, ByteArray.append_assoc]
    exact ByteArray.extract_append_eq_left (by rw [hza])
  have eB : (pkt p ++ rest).extract 12 20 = hB p := by
    refine bn_ext (by rw [ext_size _ _ _ (by omega), hzb]) fun i hi => ?_
    rw [ext_size _ _ _ (by omega)] at hi
    rw [bn_extract (by omega) (by omega), bB i (by omega)]
  have hzr : zeroed (pkt p ++ rest) = h20 p (20 + p.data.size) 0 := by
    unfold zeroed h20
    rw [eA, eB, lit00]
  have eD : (pkt p ++ rest).extract 20 (20 + p.data.size) = p.data := by
    refine bn_ext (by rw [ext_size _ _ _ (by omega)]; omega) fun i hi => ?_
    rw [ext_size _ _ _ (by omega)] at hi
    rw [bn_extract (by omega) (by omega), bn_app_l (by omega), ← pkt_def, bn_app_r (by rw [h20_size]; omega), h20_size, show 20 + i - 20 = i by omega]
  obtain ⟨a0, a1, a2, a3, a4, a5, a6, a7, a8, a9⟩ := hA'
  obtain ⟨c0, c1, c2, c3, c4, c5, c6, c7⟩ := hB'
  rw [← bA _ (by decide)] at a0 a1 a2 a3 a4 a5 a6 a7 a8 a9
  rw [← bB _ (by decide)] at c0 c1 c2 c3 c4 c5 c6 c7
  clear bA bB eA eB hza hzb hz
  have hw2 : word (pkt p ++ rest) 2 = 20 + p.data.size := word_of (by omega) a2 a3
  have hw4 : word (pkt p ++ rest) 4 = p.id.toNat := word_of (by omega) a4 a5
  have hw6 : word (pkt p ++ rest) 6 = partN p := word_of (by omega) a6 a7
  clear a2 a3 a4 a5 a6 a7
  have hparse : parseP (pkt p ++ rest) = p := by
    have e4 : ((p.id.toNat : Nat) : Int) = p.id := Int.toNat_of_nonneg (by omega)
    have e8 : ((p.ttl.toNat % 256 : Nat) : Int) = p.ttl := by clear a0 a1 a8 a9 c0 c1 c2 c3 c4 c5 c6 c7 hw2 hw4 hw6 w10 hzr eD; omega
    have e9 : ((p.proto.toNat % 256 : Nat) : Int) = p.proto := by clear a0 a1 a8 a9 c0 c1 c2 c3 c4 c5 c6 c7 hw2 hw4 hw6 w10 hzr eD; omega
    have em : decide (partN p / 8192 % 2 = 1) = p.more := by
      cases hm : p.more with
      | true => exact decide_eq_true (hpart.2.2.2 hm)
      | false => exact decide_eq_false fun n => by rw [hpart.2.2.1 n] at hm; cases hm
    have eo : ((partN p % 8192 : Nat) : Int) = p.off := by rw [hpart.2.1]; exact Int.toNat_of_nonneg (by omega)
    unfold parseP
    rw [hw2, hw4, hw6, eD, a8, a9, e4, e8, e9, em, eo, c0, c1, c2, c3, c4, c5, c6, c7]
  unfold decP
  rw [if_neg (by omega), if_neg (by omega), if_neg (by omega), if_neg (by rw [w10, hzr]; exact fun n => n rfl), if_neg (by omega), hparse]
end
attribute [local irreducible] be ones word zeroed pkt hA hB encP decP

theorem two05_spec (s : ByteArray) (h : 2 ≤ s.size) : FSpec Try.prog 48 #[.string s] (emp) (fun _ : Unit => True) (fun _ => .int .i64 (word s 0 : Nat)) (fun _ => emp) := by
  have hb0 := byt_bn s 0
  have hb1 := byt_bn s 1
  have hl0 := bn_lt s 0
  have hl1 := bn_lt s 1
  have hw : word s 0 = bn s 0 * 256 + bn s 1 := word_nat s 0
  refine FSpec.enter' Try.func48 rfl Try.ntmps48 rfl fun σ F => ?_
  refine J_seq ?_
  refine J_region ?_
  refine L_v (opv_assign rfl) rfl ?_
  refine L_nil ?_
  refine K_then ?_
  refine J_seq ?_
  refine J_quiet Try.mixed (by kernel_rfl) ?_
  refine Q_v (opv_move rfl) rfl ?_
  refine Q_v ((opv_indexS rfl rfl (by omega)).as (v' := .int .u8 (byt s 0)) rfl) rfl ?_
  refine Q_v (opv_convW rfl (Go.IntWalk.i64_in _ (by have := byt_lt s 0; have := byt_ge s 0; omega))) rfl ?_
  refine Q_v (opv_mul64 rfl rfl (by omega)) rfl ?_
  refine Q_v (opv_move rfl) rfl ?_
  refine Q_v ((opv_indexS rfl rfl (by omega)).as (v' := .int .u8 (byt s 1)) rfl) rfl ?_
  refine Q_v (opv_convW rfl (Go.IntWalk.i64_in _ (by have := byt_lt s 1; have := byt_ge s 1; omega))) rfl ?_
  refine Q_v ((opv_add64 rfl rfl (by omega)).as (v' := .int .i64 (word s 0 : Nat)) (congrArg (Value.int .i64) (by omega))) rfl ?_
  refine Q_v (opv_assign rfl) rfl ?_
  refine QL_nil ?_
  refine K_then ?_
  refine J_ret ?_
  exact K_ret1 rfl rfl () trivial (rfl) (Ent.refl _)

theorem two05_at (s : ByteArray) (k : Nat) (h : k + 2 ≤ s.size) : FSpec Try.prog 48 #[.string (s.extract k s.size)] emp (fun _ : Unit => True) (fun _ => .int .i64 (word s k : Nat)) (fun _ => emp) := by
  have := two05_spec (s.extract k s.size) (by rw [ext_size s _ _ (Nat.le_refl _)]; omega)
  rwa [word_ext (by omega), Nat.add_zero] at this
theorem plain_parse {s : ByteArray} (h : 20 ≤ s.size) : plainL (parseP s) = [.int .i64 (word s 4 : Nat), .bool (decide (word s 6 / 8192 % 2 = 1)), .int .i64 ((word s 6 % 8192 : Nat) : Int), .int .i64 (bn s 8 : Nat), .int .i64 (bn s 9 : Nat), .string (s.extract 12 16), .string (s.extract 16 20), .string (s.extract 20 (word s 2))] := by
  have a := ext4 (s := s) (o := 12) (by omega)
  have c := ext4 (s := s) (o := 16) (by omega)
  simp only [Nat.reduceAdd] at a c
  unfold plainL
  rw [a, c]
  rfl

set_option maxHeartbeats 400000 in
theorem RIp4Decode_spec (s : ByteArray) (hs : s.size ≤ 1000000) : FSpec Try.prog 27 #[.string s] (emp) (fun _ : Unit => True) (fun _ => .tuple #[.agg (if (decP s).2 = 0 then plainL (decP s).1 else rzL).toArray, .int .i64 (decP s).2]) (fun _ => emp) := by
  have hw6 := word_lt s 6
  have hz0 : (⟨#[0, 0]⟩ : ByteArray).size = 2 := rfl
  have hzs : 20 ≤ s.size → (zeroed s).size = 20 := zeroed_size
  refine FSpec.enter' Try.func27 rfl Try.ntmps27 rfl fun σ F => ?_
  refine J_emp ?_
  refine J_seq ?_
  refine J_region ?_
  refine L_x rfl (opx_alloc rfl) (fun b2 _ => ?_)
  refine L_v (opv_assign rfl) rfl ?_
  refine L_nil ?_
  refine K_then ?_
  refine J_seq ?_
  refine J_seq ?_
  refine J_region ?_
  refine L_v (opv_move rfl) rfl ?_
  first
    | refine L_v (opv_lenL rfl) rfl ?_
    | refine L_v (opv_lenS rfl) rfl ?_
  refine L_v (opv_lss rfl rfl) rfl ?_
  refine L_nil ?_
  refine K_then ?_
  refine J_cond rfl (fun h1 => ?_) (fun h1 => ?_)
  · refine J_seq ?_
    refine J_region ?_
    refine L_v (opv_build rfl) rfl ?_
    refine L_x rfl (opx_store rfl rfl rfl (by simp [Value.oneCell'])) (fun _ _ => ?_)
    refine L_v (opv_assign rfl) rfl ?_
    refine L_nil ?_
    refine K_then ?_
    refine J_ret ?_
    refine K_then_ret ?_
    have e : decP s = (pkz, 10) := by unfold decP; rw [if_pos (by first | assumption | omega)]
    exact K_ret2c rfl rfl rfl rfl () trivial (by rw [e]; rfl) Ent.take
  · refine J_skip ?_
    refine K_then ?_
    refine J_seq ?_
    refine J_seq ?_
    refine J_region ?_
    refine L_v (opv_move rfl) rfl ?_
    refine L_v ((opv_indexS rfl rfl (by omega)).as (v' := .int .u8 ((bn s 0 : Nat) : Int)) rfl) rfl ?_
    first
      | refine L_v (opv_neq rfl rfl) rfl ?_
      | refine L_v (opv_neqS rfl rfl) rfl ?_
      | refine L_v (opv_neqNil rfl rfl) rfl ?_
      | refine L_v (opv_neqB rfl rfl) rfl ?_
    refine L_nil ?_
    refine K_then ?_
    refine J_cond rfl (fun h2 => ?_) (fun h2 => ?_)
    · refine J_seq ?_
      refine J_region ?_
      refine L_v (opv_build rfl) rfl ?_
      refine L_x rfl (opx_store rfl rfl rfl (by simp [Value.oneCell'])) (fun _ _ => ?_)
      refine L_v (opv_assign rfl) rfl ?_
      refine L_nil ?_
      refine K_then ?_
      refine J_ret ?_
      refine K_then_ret ?_
      have e : decP s = (pkz, 13) := by unfold decP; rw [if_neg (by first | assumption | omega), if_pos (by first | assumption | omega)]
      exact K_ret2c rfl rfl rfl rfl () trivial (by rw [e]; rfl) Ent.take
    · refine J_skip ?_
      refine K_then ?_
      refine J_seq ?_
      refine J_region ?_
      refine L_v (opv_move rfl) rfl ?_
      refine L_v ((opv_sliceSlo rfl rfl (by omega)).as (congrArg (fun k => Value.string (s.extract k s.size)) (show Int.toNat 2 = 2 from rfl))) rfl ?_
      refine L_x rfl (opx_call0 (two05_at s 2 (by omega)) rfl rfl rfl) (fun _ _ => ?_)
      refine L_emp ?_
      refine L_v (opv_assign rfl) rfl ?_
      refine L_nil ?_
      refine K_then ?_
      refine J_seq ?_
      refine J_region ?_
      refine L_v (opv_move rfl) rfl ?_
      refine L_v ((opv_sliceSlo rfl rfl (by omega)).as (congrArg (fun k => Value.string (s.extract k s.size)) (show Int.toNat 6 = 6 from rfl))) rfl ?_
      refine L_x rfl (opx_call0 (two05_at s 6 (by omega)) rfl rfl rfl) (fun _ _ => ?_)
      refine L_emp ?_
      refine L_v (opv_assign rfl) rfl ?_
      refine L_nil ?_
      refine K_then ?_
      refine J_seq ?_
      refine J_seq ?_
      refine J_region ?_
      refine L_v (opv_move rfl) rfl ?_
      refine L_v ((opv_indexS rfl rfl (by omega)).as (v' := .int .u8 ((bn s 1 : Nat) : Int)) rfl) rfl ?_
      first
        | refine L_v (opv_neq rfl rfl) rfl ?_
        | refine L_v (opv_neqS rfl rfl) rfl ?_
        | refine L_v (opv_neqNil rfl rfl) rfl ?_
        | refine L_v (opv_neqB rfl rfl) rfl ?_
      refine L_v (opv_move rfl) rfl ?_
      refine L_gf rfl rfl (fun h3 => ?_) (fun h3 => ?_) (fun _ h => by cases h; rfl)
      · refine L_v (opv_move rfl) rfl ?_
        refine L_gf_on h3 rfl rfl ?_
        refine L_v (opv_lss rfl rfl) rfl ?_
        refine L_v (opv_pick_f rfl h3 rfl) rfl ?_
        refine L_v (opv_move rfl) rfl ?_
        refine L_gf rfl rfl (fun h4 => ?_) (fun h4 => ?_) (fun _ h => by cases h; rfl)
        · refine L_v (opv_move rfl) rfl ?_
          refine L_gf_on h4 rfl rfl ?_
          refine L_v (opv_geq rfl rfl) rfl ?_
          refine L_v (opv_pick_f rfl h4 rfl) rfl ?_
          refine L_nil ?_
          refine K_then ?_
          refine J_cond rfl (fun h5 => ?_) (fun h5 => ?_)
          · refine J_seq ?_
            refine J_region ?_
            refine L_v (opv_build rfl) rfl ?_
            refine L_x rfl (opx_store rfl rfl rfl (by simp [Value.oneCell'])) (fun _ _ => ?_)
            refine L_v (opv_assign rfl) rfl ?_
            refine L_nil ?_
            refine K_then ?_
            refine J_ret ?_
            refine K_then_ret ?_
            have e : decP s = (pkz, 15) := by unfold decP; rw [if_neg (by first | assumption | omega), if_neg (by first | assumption | omega), if_pos (by first | assumption | omega)]
            exact K_ret2c rfl rfl rfl rfl () trivial (by rw [e]; rfl) Ent.take
          · refine J_skip ?_
            refine K_then ?_
            refine J_seq ?_
            refine J_seq ?_
            refine J_quiet Try.mixed (by kernel_rfl) ?_
            refine Q_v (opv_move rfl) rfl ?_
            refine Q_v ((opv_sliceSlo rfl rfl (by omega)).as (congrArg (fun k => Value.string (s.extract k s.size)) (show Int.toNat 10 = 10 from rfl))) rfl ?_
            refine Q_call (two05_at s 10 (by omega)) rfl rfl (fun _ _ => rfl) (fun _ _ => Ent.refl _) rfl ?_
            refine Q_v (opv_move rfl) rfl ?_
            refine Q_v ((opv_sliceShi rfl rfl (by omega)).as (congrArg (fun k => Value.string (s.extract 0 k)) (show Int.toNat 10 = 10 from rfl))) rfl ?_
            refine Q_v (opv_addS rfl rfl (by rw [ext_size _ _ _ (by omega), hz0]; decide)) rfl ?_
            refine Q_v (opv_move rfl) rfl ?_
            refine Q_v ((opv_sliceS rfl rfl rfl (by omega)).as (v' := .string (s.extract 12 20)) (by rw [show Int.toNat 12 = 12 from rfl, show Int.toNat 20 = 20 from rfl])) rfl ?_
            refine Q_v ((opv_addS rfl rfl (by rw [ByteArray.size_append, ext_size _ _ _ (by omega), ext_size _ _ _ (by omega), hz0]; decide)).as (v' := .string (zeroed s)) (by unfold zeroed; rfl)) rfl ?_
            refine Q_call (ROnes_spec (zeroed s) (by have := hzs (by omega); omega)) rfl rfl (fun _ _ => rfl) (fun _ _ => Ent.refl _) rfl ?_
            refine Q_v ((opv_neq rfl rfl).as (v' := .bool (decide (word s 10 ≠ ones (zeroed s)))) (congrArg Value.bool (decide_eq_decide.2 (by omega)))) rfl ?_
            refine QL_nil ?_
            refine K_then ?_
            refine J_cond rfl (fun h6 => ?_) (fun h6 => ?_)
            · refine J_seq ?_
              refine J_region ?_
              refine L_v (opv_build rfl) rfl ?_
              refine L_x rfl (opx_store rfl rfl rfl (by simp [Value.oneCell'])) (fun _ _ => ?_)
              refine L_v (opv_assign rfl) rfl ?_
              refine L_nil ?_
              refine K_then ?_
              refine J_ret ?_
              refine K_then_ret ?_
              have e : decP s = (pkz, 12) := by unfold decP; rw [if_neg (by first | assumption | omega), if_neg (by first | assumption | omega), if_neg (by first | assumption | omega), if_pos (by first | assumption | omega)]
              exact K_ret2c rfl rfl rfl rfl () trivial (by rw [e]; rfl) Ent.take
            · refine J_skip ?_
              refine K_then ?_
              refine J_seq ?_
              refine J_seq ?_
              refine J_region ?_
              refine L_v (opv_move rfl) rfl ?_
              refine L_v (opv_move rfl) rfl ?_
              first
                | refine L_v (opv_lenL rfl) rfl ?_
                | refine L_v (opv_lenS rfl) rfl ?_
              refine L_v (opv_gtr rfl rfl) rfl ?_
              refine L_nil ?_
              refine K_then ?_
              refine J_cond rfl (fun h7 => ?_) (fun h7 => ?_)
              · refine J_seq ?_
                refine J_region ?_
                refine L_v (opv_build rfl) rfl ?_
                refine L_x rfl (opx_store rfl rfl rfl (by simp [Value.oneCell'])) (fun _ _ => ?_)
                refine L_v (opv_assign rfl) rfl ?_
                refine L_nil ?_
                refine K_then ?_
                refine J_ret ?_
                refine K_then_ret ?_
                have e : decP s = (pkz, 10) := by unfold decP; rw [if_neg (by first | assumption | omega), if_neg (by first | assumption | omega), if_neg (by first | assumption | omega), if_neg (by first | assumption | omega), if_pos (by first | assumption | omega)]
                exact K_ret2c rfl rfl rfl rfl () trivial (by rw [e]; rfl) Ent.take
              · refine J_skip ?_
                refine K_then ?_
                refine J_seq ?_
                refine J_steps (emp) (emp) [] Try.mixed ?_
                refine R_pure 0 rfl (by kernel_rfl) (by kernel_rfl) (by kernel_rfl) (by kernel_rfl) (.inr ⟨_, Take.eq (A := emp)⟩) (opv_move rfl) rfl ?_
                refine R_pure 1 rfl (by kernel_rfl) (by kernel_rfl) (by kernel_rfl) (by kernel_rfl) (.inr ⟨_, Take.eq (A := emp)⟩) ((opv_sliceSlo rfl rfl (by omega)).as (congrArg (fun k => Value.string (s.extract k s.size)) (show Int.toNat 4 = 4 from rfl))) rfl ?_
                refine R_pure 3 rfl (by kernel_rfl) (by kernel_rfl) (by kernel_rfl) (by kernel_rfl) (.inr ⟨_, Take.eq (A := emp)⟩) (opv_move rfl) rfl ?_
                refine R_pure 4 rfl (by kernel_rfl) (by kernel_rfl) (by kernel_rfl) (by kernel_rfl) (.inr ⟨_, Take.eq (A := emp)⟩) ((opv_geq rfl rfl).as (v' := .bool (decide (word s 6 / 8192 % 2 = 1))) (congrArg Value.bool (decide_eq_decide.2 (by omega)))) rfl ?_
                refine R_pure 5 rfl (by kernel_rfl) (by kernel_rfl) (by kernel_rfl) (by kernel_rfl) (.inr ⟨_, Take.eq (A := emp)⟩) (opv_move rfl) rfl ?_
                refine R_pure 6 rfl (by kernel_rfl) (by kernel_rfl) (by kernel_rfl) (by kernel_rfl) (.inr ⟨_, Take.eq (A := emp)⟩) ((opv_remP rfl rfl (by omega)).as (v' := .int .i64 ((word s 6 % 8192 : Nat) : Int)) rfl) rfl ?_
                refine R_pure 7 rfl (by kernel_rfl) (by kernel_rfl) (by kernel_rfl) (by kernel_rfl) (.inr ⟨_, Take.eq (A := emp)⟩) (opv_move rfl) rfl ?_
                refine R_pure 8 rfl (by kernel_rfl) (by kernel_rfl) (by kernel_rfl) (by kernel_rfl) (.inr ⟨_, Take.eq (A := emp)⟩) ((opv_indexS rfl rfl (by omega)).as (v' := .int .u8 ((bn s 8 : Nat) : Int)) rfl) rfl ?_
                refine R_pure 9 rfl (by kernel_rfl) (by kernel_rfl) (by kernel_rfl) (by kernel_rfl) (.inr ⟨_, Take.eq (A := emp)⟩) (opv_convW rfl (Go.IntWalk.i64_in _ (by have := bn_lt s 8; omega))) rfl ?_
                refine R_pure 10 rfl (by kernel_rfl) (by kernel_rfl) (by kernel_rfl) (by kernel_rfl) (.inr ⟨_, Take.eq (A := emp)⟩) (opv_move rfl) rfl ?_
                refine R_pure 11 rfl (by kernel_rfl) (by kernel_rfl) (by kernel_rfl) (by kernel_rfl) (.inr ⟨_, Take.eq (A := emp)⟩) ((opv_indexS rfl rfl (by omega)).as (v' := .int .u8 ((bn s 9 : Nat) : Int)) rfl) rfl ?_
                refine R_pure 12 rfl (by kernel_rfl) (by kernel_rfl) (by kernel_rfl) (by kernel_rfl) (.inr ⟨_, Take.eq (A := emp)⟩) (opv_convW rfl (Go.IntWalk.i64_in _ (by have := bn_lt s 9; omega))) rfl ?_
                refine R_pure 13 rfl (by kernel_rfl) (by kernel_rfl) (by kernel_rfl) (by kernel_rfl) (.inr ⟨_, Take.eq (A := emp)⟩) (opv_move rfl) rfl ?_
                refine R_pure 14 rfl (by kernel_rfl) (by kernel_rfl) (by kernel_rfl) (by kernel_rfl) (.inr ⟨_, Take.eq (A := emp)⟩) ((opv_sliceS rfl rfl rfl (by omega)).as (v' := .string (s.extract 12 16)) (by rw [show Int.toNat 12 = 12 from rfl, show Int.toNat 16 = 16 from rfl])) rfl ?_
                refine R_pure 15 rfl (by kernel_rfl) (by kernel_rfl) (by kernel_rfl) (by kernel_rfl) (.inr ⟨_, Take.eq (A := emp)⟩) (opv_move rfl) rfl ?_
                refine R_pure 16 rfl (by kernel_rfl) (by kernel_rfl) (by kernel_rfl) (by kernel_rfl) (.inr ⟨_, Take.eq (A := emp)⟩) ((opv_sliceS rfl rfl rfl (by omega)).as (v' := .string (s.extract 16 20)) (by rw [show Int.toNat 16 = 16 from rfl, show Int.toNat 20 = 20 from rfl])) rfl ?_
                refine R_pure 17 rfl (by kernel_rfl) (by kernel_rfl) (by kernel_rfl) (by kernel_rfl) (.inr ⟨_, Take.eq (A := emp)⟩) (opv_move rfl) rfl ?_
                refine R_pure 18 rfl (by kernel_rfl) (by kernel_rfl) (by kernel_rfl) (by kernel_rfl) (.inr ⟨_, Take.eq (A := emp)⟩) (opv_move rfl) rfl ?_
                refine R_pure 19 rfl (by kernel_rfl) (by kernel_rfl) (by kernel_rfl) (by kernel_rfl) (.inr ⟨_, Take.eq (A := emp)⟩) ((opv_sliceS rfl rfl rfl (by omega)).as (v' := .string (s.extract 20 (word s 2))) (by rw [show Int.toNat 20 = 20 from rfl, Int.toNat_natCast])) rfl ?_
                refine R_only 2 rfl rfl (by kernel_rfl) (opx_call0 (two05_at s 4 (by omega)) rfl rfl rfl) (fun _ _ => ⟨_, Take.eq (A := emp)⟩) (.inr fun _ _ => ⟨_, Take.eq (A := emp)⟩) (fun _ _ => ?_)
                refine Rg_emp ?_
                refine R_pure 20 rfl (by kernel_rfl) (by kernel_rfl) (by kernel_rfl) (by kernel_rfl) (.inr ⟨_, Take.eq (A := emp)⟩) (opv_build rfl) rfl ?_
                refine R_only 21 rfl rfl (by kernel_rfl) (opx_store rfl rfl rfl (by simp [Value.oneCell'])) (fun _ _ => ⟨_, Take.eq (A := emp)⟩) (.inr fun _ _ => ⟨_, Take.eq (A := emp)⟩) (fun _ _ => ?_)
                refine R_pure 22 rfl (by kernel_rfl) (by kernel_rfl) (by kernel_rfl) (by kernel_rfl) (.inr ⟨_, Take.eq (A := emp)⟩) (opv_assign rfl) rfl ?_
                refine R_done (by kernel_rfl) ?_
                refine K_then ?_
                refine J_ret ?_
                have e : decP s = (parseP s, 0) := by unfold decP; rw [if_neg (by first | assumption | omega), if_neg (by first | assumption | omega), if_neg (by first | assumption | omega), if_neg (by first | assumption | omega), if_neg (by first | assumption | omega)]
                exact K_ret2c rfl rfl rfl rfl () trivial (by rw [e, if_pos rfl, plain_parse (by omega)]) Ent.take
        · refine L_gf_off h4 rfl rfl ?_ (fun _ h => by cases h; rfl)
          refine L_v (opv_pick_t rfl h4 rfl) rfl ?_
          refine L_nil ?_
          refine K_then ?_
          refine J_cond_true rfl ?_
          refine J_seq ?_
          refine J_region ?_
          refine L_v (opv_build rfl) rfl ?_
          refine L_x rfl (opx_store rfl rfl rfl (by simp [Value.oneCell'])) (fun _ _ => ?_)
          refine L_v (opv_assign rfl) rfl ?_
          refine L_nil ?_
          refine K_then ?_
          refine J_ret ?_
          refine K_then_ret ?_
          have e : decP s = (pkz, 15) := by unfold decP; rw [if_neg (by first | assumption | omega), if_neg (by first | assumption | omega), if_pos (by first | assumption | omega)]
          exact K_ret2c rfl rfl rfl rfl () trivial (by rw [e]; rfl) Ent.take
      · refine L_gf_off h3 rfl rfl ?_ (fun _ h => by cases h; rfl)
        refine L_v (opv_pick_t rfl h3 rfl) rfl ?_
        refine L_v (opv_move rfl) rfl ?_
        refine L_gskip rfl rfl rfl ?_ (fun _ h => by cases h; rfl)
        refine L_gskip rfl rfl rfl ?_ (fun _ h => by cases h; rfl)
        first
          | refine L_v (opv_pick_tt rfl rfl) rfl ?_
          | refine L_v (opv_pick_ff rfl rfl) rfl ?_
          | refine L_v (opv_pick rfl rfl rfl) rfl ?_
        refine L_nil ?_
        refine K_then ?_
        refine J_cond_true rfl ?_
        refine J_seq ?_
        refine J_region ?_
        refine L_v (opv_build rfl) rfl ?_
        refine L_x rfl (opx_store rfl rfl rfl (by simp [Value.oneCell'])) (fun _ _ => ?_)
        refine L_v (opv_assign rfl) rfl ?_
        refine L_nil ?_
        refine K_then ?_
        refine J_ret ?_
        refine K_then_ret ?_
        have e : decP s = (pkz, 15) := by unfold decP; rw [if_neg (by first | assumption | omega), if_neg (by first | assumption | omega), if_pos (by first | assumption | omega)]
        exact K_ret2c rfl rfl rfl rfl () trivial (by rw [e]; rfl) Ent.take


theorem decP_ok {s : ByteArray} (hs : s.size ≤ 1000000) : okPk (decP s).1 := by
  by_cases h : (decP s).2 = 0
  · rw [(decP_good h).1]; exact parseP_ok s hs
  · rw [decP_bad h]; exact pkz_ok
theorem D_lit (s : ByteArray) (hs : s.size ≤ 1000000) : FSpec Try.prog 26 #[.string s] emp (fun _ : Unit => True) (fun _ => .tuple #[.agg [.int .i64 (decP s).1.id, .bool (decP s).1.more, .int .i64 (decP s).1.off, .int .i64 (decP s).1.ttl, .int .i64 (decP s).1.proto, .int .u8 (decP s).1.s0, .int .u8 (decP s).1.s1, .int .u8 (decP s).1.s2, .int .u8 (decP s).1.s3, .int .u8 (decP s).1.d0, .int .u8 (decP s).1.d1, .int .u8 (decP s).1.d2, .int .u8 (decP s).1.d3, .string (decP s).1.data].toArray, .int .i64 (decP s).2]) (fun _ => emp) := Ip4Decode_spec s hs
theorem D_bad (s : ByteArray) (hs : s.size ≤ 1000000) (h : (decP s).2 ≠ 0) : FSpec Try.prog 26 #[.string s] emp (fun _ : Unit => True) (fun _ => .tuple #[.agg [.int .i64 0, .bool false, .int .i64 0, .int .i64 0, .int .i64 0, .int .u8 0, .int .u8 0, .int .u8 0, .int .u8 0, .int .u8 0, .int .u8 0, .int .u8 0, .int .u8 0, .string ⟨#[]⟩].toArray, .int .i64 (decP s).2]) (fun _ => emp) := by
  have := Ip4Decode_spec s hs
  rw [decP_bad h] at this
  exact this
theorem RD_ok (s : ByteArray) (hs : s.size ≤ 1000000) (h : (decP s).2 = 0) : FSpec Try.prog 27 #[.string s] emp (fun _ : Unit => True) (fun _ => .tuple #[.agg [.int .i64 (decP s).1.id, .bool (decP s).1.more, .int .i64 (decP s).1.off, .int .i64 (decP s).1.ttl, .int .i64 (decP s).1.proto, .string (bytesL (decP s).1.src), .string (bytesL (decP s).1.dst), .string (decP s).1.data].toArray, .int .i64 (decP s).2]) (fun _ => emp) := by
  have := RIp4Decode_spec s hs
  rw [if_pos h] at this
  exact this
theorem RD_bad (s : ByteArray) (hs : s.size ≤ 1000000) (h : (decP s).2 ≠ 0) : FSpec Try.prog 27 #[.string s] emp (fun _ : Unit => True) (fun _ => .tuple #[.agg [.int .i64 0, .bool false, .int .i64 0, .int .i64 0, .int .i64 0, .string ⟨#[]⟩, .string ⟨#[]⟩, .string ⟨#[]⟩].toArray, .int .i64 (decP s).2]) (fun _ => emp) := by
  have := RIp4Decode_spec s hs
  rw [if_neg h] at this
  exact this
theorem D_back (p : Pk) (rest : ByteArray) (hp : okPk p) (h : fieldsB p) (hd : p.data.size ≤ 65515) (hr : rest.size ≤ 10000) : FSpec Try.prog 26 #[.string (pkt p ++ rest)] emp (fun _ : Unit => True) (fun _ => .tuple #[.agg [.int .i64 p.id, .bool p.more, .int .i64 p.off, .int .i64 p.ttl, .int .i64 p.proto, .int .u8 p.s0, .int .u8 p.s1, .int .u8 p.s2, .int .u8 p.s3, .int .u8 p.d0, .int .u8 p.d1, .int .u8 p.d2, .int .u8 p.d3, .string p.data].toArray, .int .i64 0]) (fun _ => emp) := by
  have := Ip4Decode_spec (pkt p ++ rest) (by rw [ByteArray.size_append, pkt_size]; omega)
  rw [decP_pkt hp h hd rest] at this
  exact this

theorem PD_big (W : World) (s : ByteArray) (h : 5000 < s.size) : FSpec Try.prog 9 #[.string s] (old W) (fun _ : Unit => True) (fun _ => .bool true) (fun _ => old W) := by
  refine FSpec.enter' Try.func9 rfl Try.ntmps9 rfl fun σ F => ?_
  refine J_seq ?_
  refine J_region ?_
  refine L_v (opv_assign rfl) rfl ?_
  refine L_nil ?_
  refine K_then ?_
  refine J_seq ?_
  refine J_seq ?_
  refine J_region ?_
  refine L_v (opv_move rfl) rfl ?_
  first
    | refine L_v (opv_lenL rfl) rfl ?_
    | refine L_v (opv_lenS rfl) rfl ?_
  refine L_v ((opv_gtr rfl rfl).bool_t (by omega)) rfl ?_
  refine L_nil ?_
  refine K_then ?_
  refine J_cond_true rfl ?_
  refine J_seq ?_
  refine J_region ?_
  refine L_x rfl (opx_call0 (pawake_spec) rfl rfl rfl) (fun _ _ => ?_)
  refine L_emp ?_
  refine L_v (opv_assign rfl) rfl ?_
  refine L_nil ?_
  refine K_then ?_
  refine J_ret ?_
  refine K_then_ret ?_
  exact K_ret1 rfl rfl () trivial (rfl) Ent.take

theorem PD_ok (W : World) (s : ByteArray) (hs : s.size ≤ 5000) (h : (decP s).2 = 0) : FSpec Try.prog 9 #[.string s] (old W) (fun _ : Unit => True) (fun _ => .bool true) (fun _ => old W) := by
  refine FSpec.enter' Try.func9 rfl Try.ntmps9 rfl fun σ F => ?_
  refine J_seq ?_
  refine J_region ?_
  refine L_v (opv_assign rfl) rfl ?_
  refine L_nil ?_
  refine K_then ?_
  refine J_seq ?_
  refine J_seq ?_
  refine J_region ?_
  refine L_v (opv_move rfl) rfl ?_
  first
    | refine L_v (opv_lenL rfl) rfl ?_
    | refine L_v (opv_lenS rfl) rfl ?_
  refine L_v ((opv_gtr rfl rfl).bool_f (by omega)) rfl ?_
  refine L_nil ?_
  refine K_then ?_
  refine J_cond_false rfl ?_
  refine J_skip ?_
  refine K_then ?_
  refine J_seq ?_
  refine J_region ?_
  refine L_v (opv_move rfl) rfl ?_
  refine L_x rfl (opx_call0 (D_lit s (by omega)) rfl rfl rfl) (fun _ _ => ?_)
  refine L_emp ?_
  refine L_v (opv_move rfl) rfl ?_
  refine L_v (opv_extract (v := .agg [.int .i64 (decP s).1.id, .bool (decP s).1.more, .int .i64 (decP s).1.off, .int .i64 (decP s).1.ttl, .int .i64 (decP s).1.proto, .int .u8 (decP s).1.s0, .int .u8 (decP s).1.s1, .int .u8 (decP s).1.s2, .int .u8 (decP s).1.s3, .int .u8 (decP s).1.d0, .int .u8 (decP s).1.d1, .int .u8 (decP s).1.d2, .int .u8 (decP s).1.d3, .string (decP s).1.data].toArray) rfl rfl) rfl ?_
  refine L_v (opv_extract rfl rfl) rfl ?_
  refine L_x rfl (opx_alloc rfl) (fun b3 _ => ?_)
  refine L_x rfl (opx_store rfl rfl rfl (by simp [Value.oneCell'])) (fun _ _ => ?_)
  refine L_v (opv_assign rfl) rfl ?_
  refine L_nil ?_
  refine K_then ?_
  refine J_seq ?_
  refine J_region ?_
  refine L_v (opv_move rfl) rfl ?_
  refine L_x rfl (opx_call0 (RD_ok s (by omega) h) rfl rfl rfl) (fun _ _ => ?_)
  refine L_emp ?_
  refine L_v (opv_move rfl) rfl ?_
  refine L_v (opv_extract (v := .agg [.int .i64 (decP s).1.id, .bool (decP s).1.more, .int .i64 (decP s).1.off, .int .i64 (decP s).1.ttl, .int .i64 (decP s).1.proto, .string (bytesL (decP s).1.src), .string (bytesL (decP s).1.dst), .string (decP s).1.data].toArray) rfl rfl) rfl ?_
  refine L_v (opv_extract rfl rfl) rfl ?_
  refine L_x rfl (opx_alloc rfl) (fun b5 _ => ?_)
  refine L_x rfl (opx_store rfl rfl rfl (by simp [Value.oneCell'])) (fun _ _ => ?_)
  refine L_v (opv_assign rfl) rfl ?_
  refine L_nil ?_
  refine K_then ?_
  refine J_seq ?_
  refine J_quiet Try.mixed (by kernel_rfl) ?_
  refine Q_v (opv_loadS rfl) rfl ?_
  refine Q_v (opv_move rfl) rfl ?_
  refine Q_v ((opv_neq rfl rfl).bool_f (fun n => n h)) rfl ?_
  refine Q_call (Plain_lit (decP s).1 (decP_ok (by omega))) rfl rfl (fun _ _ => rfl) (fun _ _ => Ent.refl _) rfl ?_
  refine Q_v (opv_loadS rfl) rfl ?_
  refine Q_v ((opv_eqlF rfl rfl (by simp [Shape, CK.sh]) (by simp [Shape, CK.sh])).bool_t rfl) rfl ?_
  refine Q_v (opv_move rfl) rfl ?_
  refine Q_gon rfl rfl rfl ?_
  refine Q_v (opv_move rfl) rfl ?_
  refine Q_gon rfl rfl rfl ?_
  refine Q_v (opv_move rfl) rfl ?_
  refine Q_gon rfl rfl rfl ?_
  refine Q_v ((opv_eql rfl rfl).bool_t rfl) rfl ?_
  first
    | refine Q_v (opv_pick_tt rfl rfl) rfl ?_
    | refine Q_v (opv_pick_ff rfl rfl) rfl ?_
    | refine Q_v (opv_pick rfl rfl rfl) rfl ?_
  refine Q_v (opv_move rfl) rfl ?_
  refine Q_gon rfl rfl rfl ?_
  refine Q_call (pawake_spec) rfl rfl (fun _ _ => rfl) (fun _ _ => Ent.refl _) rfl ?_
  first
    | refine Q_v (opv_pick_tt rfl rfl) rfl ?_
    | refine Q_v (opv_pick_ff rfl rfl) rfl ?_
    | refine Q_v (opv_pick rfl rfl rfl) rfl ?_
  refine Q_v (opv_assign rfl) rfl ?_
  refine QL_nil ?_
  refine K_then ?_
  refine J_ret ?_
  exact K_ret1 rfl rfl () trivial (rfl) Ent.take

theorem PD_bad (W : World) (s : ByteArray) (hs : s.size ≤ 5000) (h : (decP s).2 ≠ 0) : FSpec Try.prog 9 #[.string s] (old W) (fun _ : Unit => True) (fun _ => .bool true) (fun _ => old W) := by
  refine FSpec.enter' Try.func9 rfl Try.ntmps9 rfl fun σ F => ?_
  refine J_seq ?_
  refine J_region ?_
  refine L_v (opv_assign rfl) rfl ?_
  refine L_nil ?_
  refine K_then ?_
  refine J_seq ?_
  refine J_seq ?_
  refine J_region ?_
  refine L_v (opv_move rfl) rfl ?_
  first
    | refine L_v (opv_lenL rfl) rfl ?_
    | refine L_v (opv_lenS rfl) rfl ?_
  refine L_v ((opv_gtr rfl rfl).bool_f (by omega)) rfl ?_
  refine L_nil ?_
  refine K_then ?_
  refine J_cond_false rfl ?_
  refine J_skip ?_
  refine K_then ?_
  refine J_seq ?_
  refine J_region ?_
  refine L_v (opv_move rfl) rfl ?_
  refine L_x rfl (opx_call0 (D_bad s (by omega) h) rfl rfl rfl) (fun _ _ => ?_)
  refine L_emp ?_
  refine L_v (opv_move rfl) rfl ?_
  refine L_v (opv_extract (v := .agg [.int .i64 0, .bool false, .int .i64 0, .int .i64 0, .int .i64 0, .int .u8 0, .int .u8 0, .int .u8 0, .int .u8 0, .int .u8 0, .int .u8 0, .int .u8 0, .int .u8 0, .string ⟨#[]⟩].toArray) rfl rfl) rfl ?_
  refine L_v (opv_extract rfl rfl) rfl ?_
  refine L_x rfl (opx_alloc rfl) (fun b3 _ => ?_)
  refine L_x rfl (opx_store rfl rfl rfl (by simp [Value.oneCell'])) (fun _ _ => ?_)
  refine L_v (opv_assign rfl) rfl ?_
  refine L_nil ?_
  refine K_then ?_
  refine J_seq ?_
  refine J_region ?_
  refine L_v (opv_move rfl) rfl ?_
  refine L_x rfl (opx_call0 (RD_bad s (by omega) h) rfl rfl rfl) (fun _ _ => ?_)
  refine L_emp ?_
  refine L_v (opv_move rfl) rfl ?_
  refine L_v (opv_extract (v := .agg [.int .i64 0, .bool false, .int .i64 0, .int .i64 0, .int .i64 0, .string ⟨#[]⟩, .string ⟨#[]⟩, .string ⟨#[]⟩].toArray) rfl rfl) rfl ?_
  refine L_v (opv_extract rfl rfl) rfl ?_
  refine L_x rfl (opx_alloc rfl) (fun b5 _ => ?_)
  refine L_x rfl (opx_store rfl rfl rfl (by simp [Value.oneCell'])) (fun _ _ => ?_)
  refine L_v (opv_assign rfl) rfl ?_
  refine L_nil ?_
  refine K_then ?_
  refine J_seq ?_
  refine J_quiet Try.mixed (by kernel_rfl) ?_
  refine Q_v (opv_loadS rfl) rfl ?_
  refine Q_v (opv_move rfl) rfl ?_
  refine Q_v ((opv_neq rfl rfl).bool_t h) rfl ?_
  refine Q_call (Plain_z) rfl rfl (fun _ _ => rfl) (fun _ _ => Ent.refl _) rfl ?_
  refine Q_v (opv_loadS rfl) rfl ?_
  refine Q_v ((opv_eqlF rfl rfl (by simp [Shape, CK.sh]) (by simp [Shape, CK.sh])).bool_t rfl) rfl ?_
  refine Q_v (opv_move rfl) rfl ?_
  refine Q_gon rfl rfl rfl ?_
  refine Q_v (opv_move rfl) rfl ?_
  refine Q_gon rfl rfl rfl ?_
  refine Q_v (opv_move rfl) rfl ?_
  refine Q_gon rfl rfl rfl ?_
  refine Q_v ((opv_eql rfl rfl).bool_t rfl) rfl ?_
  first
    | refine Q_v (opv_pick_tt rfl rfl) rfl ?_
    | refine Q_v (opv_pick_ff rfl rfl) rfl ?_
    | refine Q_v (opv_pick rfl rfl rfl) rfl ?_
  refine Q_v (opv_move rfl) rfl ?_
  refine Q_gon rfl rfl rfl ?_
  refine Q_call (pawake_spec) rfl rfl (fun _ _ => rfl) (fun _ _ => Ent.refl _) rfl ?_
  first
    | refine Q_v (opv_pick_tt rfl rfl) rfl ?_
    | refine Q_v (opv_pick_ff rfl rfl) rfl ?_
    | refine Q_v (opv_pick rfl rfl rfl) rfl ?_
  refine Q_v (opv_assign rfl) rfl ?_
  refine QL_nil ?_
  refine K_then ?_
  refine J_ret ?_
  exact K_ret1 rfl rfl () trivial (rfl) Ent.take

theorem Ipv4Decodes_law (W : World) (s : ByteArray) : FSpec Try.prog 9 #[.string s] (old W) (fun _ : Unit => True) (fun _ => .bool true) (fun _ => old W) := by
  by_cases h5 : 5000 < s.size
  · exact PD_big W s h5
  · by_cases h : (decP s).2 = 0
    · exact PD_ok W s (by omega) h
    · exact PD_bad W s (by omega) h

end Go.Proofs.Ytkkomlcjcgdbeaa
namespace Go.Proofs.Ytkkomlcjcgdbeaa.ipv4Decodes
open Go.ChangeShapes Go.WideShapes Go.ChangeAt Go.RowKit Go.SLA
open Go.ChangeMaps (open_string shut_string)
set_option linter.unusedVariables false
theorem own : ownKnob Try.prog.godebug = none := by kernel_rfl
theorem laidOut : laidOutB Try.prog = true := by kernel_rfl
set_option maxRecDepth 100000 in
theorem lifted (os : Os) (started : os.Started) (H : Type) (enc : TypeId × Value → H) :
    ReturnsInHanded {} Try.checked os 9 .any (Rows.ipv4DecodesSpec.pre6 enc Try.prog Try.f9 Rows.ipv4DecodesRow.domain false) (Rows.ipv4DecodesSpec.post enc Try.prog Try.f9 false true false false) := by
  refine returnsInHanded_of_change_sized (C := Try.checked) own started (by kernel_rfl) Try.func9
    (ChangeSpec.witness6 (enc := enc) (C := Try.checked) false ⟨#[], #[.string ByteArray.empty], []⟩ 8 (by kernel_rfl) (by kernel_rfl) (by kernel_rfl) (by kernel_rfl)) ?_
  intro W base args ds gs before hval0 hW hcnd hsz0 _
  have hsz : (DataW.weightsEach Try.prog (Try.f9.params.toList ++ Rows.ipv4DecodesSpec.plain.varTypes Try.prog) (ds ++ gs)).all (· ≤ reachBytes) = true := hsz0
  have hval : ∀ (j : Nat) t v, Try.f9.params[j]? = some t → args[j]? = some v → Value.okWide Try.prog W .any base t v := hval0
  have hW' := hW
  obtain ⟨p, q, hA0, hV, rfl, hfz, hnd⟩ := hW
  have hA : DataW.TrodAll enc Try.prog W 0 (fun _ => true) true Try.f9.params.toList args.toList ds p := hA0
  rw [Try.params9] at hA hval hsz
  obtain ⟨v0, vs0, d0, ds0, p0, q0, hargs, rfl, rfl, h0, r0⟩ := trodAll_cons hA
  obtain ⟨rfl, rfl, rfl⟩ := trodAll_nil r0
  obtain rfl : args = #[v0] := by cases args; simp_all
  obtain ⟨rfl, rfl⟩ := trodVars_none hV
  have k0 := h0
  have lt0 : ∀ x ∈ p0, x.block < W.heap.size := by obtain ⟨m, hm⟩ := k0; exact DataW.trod_lt m _ _ _ hm
  obtain ⟨a0, rfl, rfl, rfl, y0⟩ := open_string Try.underlying9 (hval 0 9 v0 rfl rfl) h0
  have z0 := sized_string hsz (j := 0) (t := 9) rfl rfl
  rw [Array.length_toList] at z0
  clear hA0 hval0 hsz0 hsz
  refine (FSpec.law (Ipv4Decodes_law W a0)).mono fun e W' ⟨he, bel⟩ => ?_
  subst he
  exact ⟨_, rfl, _, _, _, [], _, [], hW', trodAll_mk1 (shut_bool Try.underlying4 _), (trodAll_cons_mk (Below.trod laidOut (by kernel_rfl) (of_decide_eq_true (by kernel_rfl)) k0 bel lt0) trodAll_mk0), rfl, bel.frame _, fun h => by cases h⟩
theorem over : Rows.ipv4DecodesRow.holds Try.pinned (OpenSpec.ofChange Rows.ipv4DecodesSpec) :=
  OpenClaim.holds_of_wide 9 Try.f9 rfl rfl rfl rfl rfl rfl rfl ⟨rfl, rfl, rfl, rfl, rfl⟩ rfl rfl rfl rfl rfl (by kernel_rfl) Try.func9 (by kernel_rfl)
    (of_decide_eq_true (by kernel_rfl)) (by unfold Func.isWrapper; first | (rw [if_pos (by decide +kernel)]; kernel_rfl) | (rw [if_neg (by decide +kernel)]; exact ⟨rfl, rfl⟩))
    (fun os started H enc _ => lifted os started H enc)
end Go.Proofs.Ytkkomlcjcgdbeaa.ipv4Decodes
namespace Go.Proofs.Ytkkomlcjcgdbeaa
theorem ipv4Decodes_holds : Rows.Ipv4DecodesSaid := ipv4Decodes.over
#print axioms ipv4Decodes_holds
end Go.Proofs.Ytkkomlcjcgdbeaa
namespace Go.Proofs.Ytkkomlcjcgdbeaa
open Go.SLA
set_option maxRecDepth 100000
attribute [local irreducible] encP decP J L K QL Rg FSpec OpV OpX Rd Back
theorem PB_no (W : World) (p : Pk) (r : ByteArray) (h : ¬ (p.data.size ≤ 5000 ∧ r.size ≤ 1000)) : FSpec Try.prog 10 #[.agg [.int .i64 p.id, .bool p.more, .int .i64 p.off, .int .i64 p.ttl, .int .i64 p.proto, .int .u8 p.s0, .int .u8 p.s1, .int .u8 p.s2, .int .u8 p.s3, .int .u8 p.d0, .int .u8 p.d1, .int .u8 p.d2, .int .u8 p.d3, .string p.data].toArray, .string r] (old W) (fun _ : Unit => True) (fun _ => .bool true) (fun _ => old W) := by
  refine FSpec.enter' Try.func10 rfl Try.ntmps10 rfl fun σ F => ?_
  refine J_seq ?_
  refine J_region ?_
  refine L_x rfl (opx_box (l := [.int .i64 p.id, .bool p.more, .int .i64 p.off, .int .i64 p.ttl, .int .i64 p.proto, .int .u8 p.s0, .int .u8 p.s1, .int .u8 p.s2, .int .u8 p.s3, .int .u8 p.d0, .int .u8 p.d1, .int .u8 p.d2, .int .u8 p.d3, .string p.data]) rfl rfl) (fun b2 _ => ?_)
  refine L_v (opv_assign rfl) rfl ?_
  refine L_nil ?_
  refine K_then ?_
  refine J_seq ?_
  refine J_seq ?_
  refine J_region ?_
  first
    | refine L_v (opv_fieldAddr0 rfl) rfl ?_
    | refine L_v (opv_fieldAddr rfl) rfl ?_
  refine L_v (opv_load rfl (Rd.look rfl)) rfl ?_
  first
    | refine L_v (opv_lenL rfl) rfl ?_
    | refine L_v (opv_lenS rfl) rfl ?_
  refine L_v (opv_gtr rfl rfl) rfl ?_
  refine L_v (opv_move rfl) rfl ?_
  refine L_gf rfl rfl (fun h1 => ?_) (fun h1 => ?_) (fun _ h => by cases h; rfl)
  · refine L_v (opv_move rfl) rfl ?_
    refine L_gf_on h1 rfl rfl ?_
    first
      | refine L_v (opv_lenL rfl) rfl ?_
      | refine L_v (opv_lenS rfl) rfl ?_
    refine L_gf_on h1 rfl rfl ?_
    refine L_v (opv_gtr rfl rfl) rfl ?_
    refine L_v (opv_pick_f rfl h1 rfl) rfl ?_
    refine L_nil ?_
    refine K_then ?_
    refine J_cond rfl (fun h2 => ?_) (fun h2 => by exfalso; omega)
    refine J_seq ?_
    refine J_region ?_
    refine L_x rfl (opx_call0 (pawake_spec) rfl rfl rfl) (fun _ _ => ?_)
    refine L_emp ?_
    refine L_v (opv_assign rfl) rfl ?_
    refine L_nil ?_
    refine K_then ?_
    refine J_ret ?_
    refine K_then_ret ?_
    exact K_ret1 rfl rfl () trivial (rfl) Ent.take
  · refine L_gf_off h1 rfl rfl ?_ (fun _ h => by cases h; rfl)
    refine L_gf_off h1 rfl rfl ?_ (fun _ h => by cases h; rfl)
    refine L_v (opv_pick_t rfl h1 rfl) rfl ?_
    refine L_nil ?_
    refine K_then ?_
    refine J_cond_true rfl ?_
    refine J_seq ?_
    refine J_region ?_
    refine L_x rfl (opx_call0 (pawake_spec) rfl rfl rfl) (fun _ _ => ?_)
    refine L_emp ?_
    refine L_v (opv_assign rfl) rfl ?_
    refine L_nil ?_
    refine K_then ?_
    refine J_ret ?_
    refine K_then_ret ?_
    exact K_ret1 rfl rfl () trivial (rfl) Ent.take

theorem PB_ok (W : World) (p : Pk) (r : ByteArray) (hp : okPk p) (h : p.data.size ≤ 5000) (hr : r.size ≤ 1000) : FSpec Try.prog 10 #[.agg [.int .i64 p.id, .bool p.more, .int .i64 p.off, .int .i64 p.ttl, .int .i64 p.proto, .int .u8 p.s0, .int .u8 p.s1, .int .u8 p.s2, .int .u8 p.s3, .int .u8 p.d0, .int .u8 p.d1, .int .u8 p.d2, .int .u8 p.d3, .string p.data].toArray, .string r] (old W) (fun _ : Unit => True) (fun _ => .bool true) (fun _ => old W) := by
  refine FSpec.enter' Try.func10 rfl Try.ntmps10 rfl fun σ F => ?_
  refine J_seq ?_
  refine J_region ?_
  refine L_x rfl (opx_box (l := [.int .i64 p.id, .bool p.more, .int .i64 p.off, .int .i64 p.ttl, .int .i64 p.proto, .int .u8 p.s0, .int .u8 p.s1, .int .u8 p.s2, .int .u8 p.s3, .int .u8 p.d0, .int .u8 p.d1, .int .u8 p.d2, .int .u8 p.d3, .string p.data]) rfl rfl) (fun b2 _ => ?_)
  refine L_v (opv_assign rfl) rfl ?_
  refine L_nil ?_
  refine K_then ?_
  refine J_seq ?_
  refine J_seq ?_
  refine J_region ?_
  first
    | refine L_v (opv_fieldAddr0 rfl) rfl ?_
    | refine L_v (opv_fieldAddr rfl) rfl ?_
  refine L_v (opv_load rfl (Rd.look rfl)) rfl ?_
  first
    | refine L_v (opv_lenL rfl) rfl ?_
    | refine L_v (opv_lenS rfl) rfl ?_
  refine L_v ((opv_gtr rfl rfl).bool_f (by omega)) rfl ?_
  refine L_v (opv_move rfl) rfl ?_
  refine L_gon rfl rfl rfl ?_
  refine L_v (opv_move rfl) rfl ?_
  refine L_gon rfl rfl rfl ?_
  first
    | refine L_v (opv_lenL rfl) rfl ?_
    | refine L_v (opv_lenS rfl) rfl ?_
  refine L_gon rfl rfl rfl ?_
  refine L_v ((opv_gtr rfl rfl).bool_f (by omega)) rfl ?_
  first
    | refine L_v (opv_pick_tt rfl rfl) rfl ?_
    | refine L_v (opv_pick_ff rfl rfl) rfl ?_
    | refine L_v (opv_pick rfl rfl rfl) rfl ?_
  refine L_nil ?_
  refine K_then ?_
  refine J_cond_false rfl ?_
  refine J_skip ?_
  refine K_then ?_
  refine J_seq ?_
  refine J_region ?_
  refine L_v (opv_loadS rfl) rfl ?_
  refine L_x rfl (opx_call0 (Ip4Encode_any p hp (by omega)) rfl rfl rfl) (fun _ _ => ?_)
  refine L_emp ?_
  refine L_v (opv_move rfl) rfl ?_
  refine L_v (opv_extract rfl rfl) rfl ?_
  refine L_v (opv_extract rfl rfl) rfl ?_
  refine L_v (opv_assign rfl) rfl ?_
  refine L_v (opv_assign rfl) rfl ?_
  refine L_nil ?_
  refine K_then ?_
  refine J_seq ?_
  refine J_seq ?_
  refine J_region ?_
  refine L_v (opv_move rfl) rfl ?_
  first
    | refine L_v (opv_neq rfl rfl) rfl ?_
    | refine L_v (opv_neqS rfl rfl) rfl ?_
    | refine L_v (opv_neqNil rfl rfl) rfl ?_
    | refine L_v (opv_neqB rfl rfl) rfl ?_
  refine L_nil ?_
  refine K_then ?_
  refine J_cond rfl (fun h1 => ?_) (fun h1 => ?_)
  · refine J_seq ?_
    refine J_region ?_
    refine L_v (opv_move rfl) rfl ?_
    refine L_v ((opv_eqlS rfl rfl).bool_t (encP_bad (by assumption))) rfl ?_
    refine L_v (opv_move rfl) rfl ?_
    refine L_gon rfl rfl rfl ?_
    refine L_x rfl (opx_call0 (pawake_spec) rfl rfl rfl) (fun _ _ => ?_)
    refine L_emp ?_
    first
      | refine L_v (opv_pick_tt rfl rfl) rfl ?_
      | refine L_v (opv_pick_ff rfl rfl) rfl ?_
      | refine L_v (opv_pick rfl rfl rfl) rfl ?_
    refine L_v (opv_assign rfl) rfl ?_
    refine L_nil ?_
    refine K_then ?_
    refine J_ret ?_
    refine K_then_ret ?_
    exact K_ret1 rfl rfl () trivial (rfl) Ent.take
  · obtain ⟨hn, hl, he⟩ := encP_ok (p := p) h1
    have hsz := pkt_size p
    refine J_skip ?_
    refine K_then ?_
    refine J_seq ?_
    rw [he]
    dsimp only
    refine J_region ?_
    refine L_v (opv_move rfl) rfl ?_
    refine L_v (opv_move rfl) rfl ?_
    refine L_v (opv_addS rfl rfl (by omega)) rfl ?_
    refine L_x rfl (opx_call0 (D_back p r hp hn hl (by omega)) rfl rfl rfl) (fun _ _ => ?_)
    refine L_emp ?_
    refine L_v (opv_move rfl) rfl ?_
    refine L_v (opv_extract (v := .agg [.int .i64 p.id, .bool p.more, .int .i64 p.off, .int .i64 p.ttl, .int .i64 p.proto, .int .u8 p.s0, .int .u8 p.s1, .int .u8 p.s2, .int .u8 p.s3, .int .u8 p.d0, .int .u8 p.d1, .int .u8 p.d2, .int .u8 p.d3, .string p.data].toArray) rfl rfl) rfl ?_
    refine L_v (opv_extract rfl rfl) rfl ?_
    refine L_x rfl (opx_alloc rfl) (fun b7 _ => ?_)
    refine L_x rfl (opx_store rfl rfl rfl (by simp [Value.oneCell'])) (fun _ _ => ?_)
    refine L_v (opv_assign rfl) rfl ?_
    refine L_nil ?_
    refine K_then ?_
    refine J_seq ?_
    refine J_region ?_
    refine L_v (opv_move rfl) rfl ?_
    refine L_v ((opv_eql rfl rfl).bool_t rfl) rfl ?_
    refine L_v (opv_move rfl) rfl ?_
    refine L_gon rfl rfl rfl ?_
    refine L_v (opv_loadS rfl) rfl ?_
    refine L_gon rfl rfl rfl ?_
    refine L_v (opv_loadS rfl) rfl ?_
    refine L_gon rfl rfl rfl ?_
    refine L_v ((opv_eqlF rfl rfl (by simp [Shape, CK.sh]) (by simp [Shape, CK.sh])).bool_t rfl) rfl ?_
    first
      | refine L_v (opv_pick_tt rfl rfl) rfl ?_
      | refine L_v (opv_pick_ff rfl rfl) rfl ?_
      | refine L_v (opv_pick rfl rfl rfl) rfl ?_
    refine L_v (opv_move rfl) rfl ?_
    refine L_gon rfl rfl rfl ?_
    refine L_v (opv_move rfl) rfl ?_
    refine L_gon rfl rfl rfl ?_
    first
      | refine L_v (opv_lenL rfl) rfl ?_
      | refine L_v (opv_lenS rfl) rfl ?_
    refine L_gon rfl rfl rfl ?_
    first
      | refine L_v (opv_fieldAddr0 rfl) rfl ?_
      | refine L_v (opv_fieldAddr rfl) rfl ?_
    refine L_gon rfl rfl rfl ?_
    refine L_v (opv_load rfl (Rd.look rfl)) rfl ?_
    refine L_gon rfl rfl rfl ?_
    first
      | refine L_v (opv_lenL rfl) rfl ?_
      | refine L_v (opv_lenS rfl) rfl ?_
    refine L_gon rfl rfl rfl ?_
    first
      | refine L_v (opv_add64 rfl rfl (by omega)) rfl ?_
      | refine L_v (opv_addS rfl rfl (by omega)) rfl ?_
      | refine L_v (opv_add rfl rfl) rfl ?_
    refine L_gon rfl rfl rfl ?_
    refine L_v ((opv_eql rfl rfl).bool_t (by rw [hsz]; omega)) rfl ?_
    first
      | refine L_v (opv_pick_tt rfl rfl) rfl ?_
      | refine L_v (opv_pick_ff rfl rfl) rfl ?_
      | refine L_v (opv_pick rfl rfl rfl) rfl ?_
    refine L_v (opv_move rfl) rfl ?_
    refine L_gon rfl rfl rfl ?_
    refine L_x rfl (opx_call0 (pawake_spec) rfl rfl rfl) (fun _ _ => ?_)
    refine L_emp ?_
    first
      | refine L_v (opv_pick_tt rfl rfl) rfl ?_
      | refine L_v (opv_pick_ff rfl rfl) rfl ?_
      | refine L_v (opv_pick rfl rfl rfl) rfl ?_
    refine L_v (opv_assign rfl) rfl ?_
    refine L_nil ?_
    refine K_then ?_
    refine J_ret ?_
    exact K_ret1 rfl rfl () trivial (rfl) Ent.take

theorem Ipv4Back_law (W : World) (p : Pk) (r : ByteArray) (hp : okPk p) : FSpec Try.prog 10 #[.agg (encPk p).toArray, .string r] (old W) (fun _ : Unit => True) (fun _ => .bool true) (fun _ => old W) := by
  by_cases h : p.data.size ≤ 5000 ∧ r.size ≤ 1000
  · exact PB_ok W p r hp h.1 h.2
  · exact PB_no W p r h

end Go.Proofs.Ytkkomlcjcgdbeaa
namespace Go.Proofs.Ytkkomlcjcgdbeaa.ipv4Back
open Go.ChangeShapes Go.WideShapes Go.ChangeAt Go.RowKit Go.SLA
open Go.ChangeMaps (open_string shut_string)
set_option linter.unusedVariables false
theorem own : ownKnob Try.prog.godebug = none := by kernel_rfl
theorem laidOut : laidOutB Try.prog = true := by kernel_rfl
set_option maxRecDepth 100000 in
theorem lifted (os : Os) (started : os.Started) (H : Type) (enc : TypeId × Value → H) :
    ReturnsInHanded {} Try.checked os 10 .any (Rows.ipv4BackSpec.pre6 enc Try.prog Try.f10 Rows.ipv4BackRow.domain false) (Rows.ipv4BackSpec.post enc Try.prog Try.f10 false true false false) := by
  refine returnsInHanded_of_change_sized (C := Try.checked) own started (by kernel_rfl) Try.func10
    (ChangeSpec.witness6 (enc := enc) (C := Try.checked) false ⟨#[], #[.agg (encPk pkz).toArray, .string ByteArray.empty], []⟩ 8 (by kernel_rfl) (by kernel_rfl) (by kernel_rfl) (by kernel_rfl)) ?_
  intro W base args ds gs before hval0 hW hcnd hsz0 _
  have hsz : (DataW.weightsEach Try.prog (Try.f10.params.toList ++ Rows.ipv4BackSpec.plain.varTypes Try.prog) (ds ++ gs)).all (· ≤ reachBytes) = true := hsz0
  have hval : ∀ (j : Nat) t v, Try.f10.params[j]? = some t → args[j]? = some v → Value.okWide Try.prog W .any base t v := hval0
  have hW' := hW
  obtain ⟨p, q, hA0, hV, rfl, hfz, hnd⟩ := hW
  have hA : DataW.TrodAll enc Try.prog W 0 (fun _ => true) true Try.f10.params.toList args.toList ds p := hA0
  rw [Try.params10] at hA hval hsz
  obtain ⟨v0, vs0, d0, ds0, p0, q0, hargs, rfl, rfl, h0, r0⟩ := trodAll_cons hA
  obtain ⟨v1, vs1, d1, ds1, p1, q1, rfl, rfl, rfl, h1, r1⟩ := trodAll_cons r0
  obtain ⟨rfl, rfl, rfl⟩ := trodAll_nil r1
  obtain rfl : args = #[v0, v1] := by cases args; simp_all
  obtain ⟨rfl, rfl⟩ := trodVars_none hV
  have k0 := h0
  have lt0 : ∀ x ∈ p0, x.block < W.heap.size := by obtain ⟨m, hm⟩ := k0; exact DataW.trod_lt m _ _ _ hm
  obtain ⟨l0, rfl, g0⟩ := open_flat (D := 5) (ks := ksPk) (by kernel_rfl) (by kernel_rfl) (hval 0 41 v0 rfl rfl) h0
  obtain ⟨x0, rfl, ok0⟩ := decPk l0 g0
  have k1 := h1
  have lt1 : ∀ x ∈ p1, x.block < W.heap.size := by obtain ⟨m, hm⟩ := k1; exact DataW.trod_lt m _ _ _ hm
  obtain ⟨a1, rfl, rfl, rfl, y1⟩ := open_string Try.underlying9 (hval 1 9 v1 rfl rfl) h1
  have z1 := sized_string hsz (j := 1) (t := 9) rfl rfl
  rw [Array.length_toList] at z1
  clear hA0 hval0 hsz0 hsz
  refine (FSpec.law (Ipv4Back_law W x0 a1 ok0)).mono fun e W' ⟨he, bel⟩ => ?_
  subst he
  exact ⟨_, rfl, _, _, _, [], _, [], hW', trodAll_mk1 (shut_bool Try.underlying4 _), (trodAll_cons_mk (Below.trod laidOut (by kernel_rfl) (of_decide_eq_true (by kernel_rfl)) k0 bel lt0) (trodAll_cons_mk (Below.trod laidOut (by kernel_rfl) (of_decide_eq_true (by kernel_rfl)) k1 bel lt1) trodAll_mk0)), rfl, bel.frame _, fun h => by cases h⟩
theorem over : Rows.ipv4BackRow.holds Try.pinned (OpenSpec.ofChange Rows.ipv4BackSpec) :=
  OpenClaim.holds_of_wide 10 Try.f10 rfl rfl rfl rfl rfl rfl rfl ⟨rfl, rfl, rfl, rfl, rfl⟩ rfl rfl rfl rfl rfl (by kernel_rfl) Try.func10 (by kernel_rfl)
    (of_decide_eq_true (by kernel_rfl)) (by unfold Func.isWrapper; first | (rw [if_pos (by decide +kernel)]; kernel_rfl) | (rw [if_neg (by decide +kernel)]; exact ⟨rfl, rfl⟩))
    (fun os started H enc _ => lifted os started H enc)
end Go.Proofs.Ytkkomlcjcgdbeaa.ipv4Back
namespace Go.Proofs.Ytkkomlcjcgdbeaa
theorem ipv4Back_holds : Rows.Ipv4BackSaid := ipv4Back.over
#print axioms ipv4Back_holds
end Go.Proofs.Ytkkomlcjcgdbeaa
namespace Go.Proofs.Ytkkomlcjcgdbeaa
open Go.SLA
set_option maxRecDepth 100000
attribute [local irreducible] encP decP J L K QL Rg FSpec OpV OpX Rd Back
theorem PA_big (W : World) (s : ByteArray) (h : 5000 < s.size) : FSpec Try.prog 11 #[.string s] (old W) (fun _ : Unit => True) (fun _ => .bool true) (fun _ => old W) := by
  refine FSpec.enter' Try.func11 rfl Try.ntmps11 rfl fun σ F => ?_
  refine J_seq ?_
  refine J_region ?_
  refine L_v (opv_assign rfl) rfl ?_
  refine L_nil ?_
  refine K_then ?_
  refine J_seq ?_
  refine J_seq ?_
  refine J_region ?_
  refine L_v (opv_move rfl) rfl ?_
  first
    | refine L_v (opv_lenL rfl) rfl ?_
    | refine L_v (opv_lenS rfl) rfl ?_
  refine L_v ((opv_gtr rfl rfl).bool_t (by omega)) rfl ?_
  refine L_nil ?_
  refine K_then ?_
  refine J_cond_true rfl ?_
  refine J_seq ?_
  refine J_region ?_
  refine L_x rfl (opx_call0 (pawake_spec) rfl rfl rfl) (fun _ _ => ?_)
  refine L_emp ?_
  refine L_v (opv_assign rfl) rfl ?_
  refine L_nil ?_
  refine K_then ?_
  refine J_ret ?_
  refine K_then_ret ?_
  exact K_ret1 rfl rfl () trivial (rfl) Ent.take

theorem PA_bad (W : World) (s : ByteArray) (hs : s.size ≤ 5000) (h : (decP s).2 ≠ 0) : FSpec Try.prog 11 #[.string s] (old W) (fun _ : Unit => True) (fun _ => .bool true) (fun _ => old W) := by
  refine FSpec.enter' Try.func11 rfl Try.ntmps11 rfl fun σ F => ?_
  refine J_seq ?_
  refine J_region ?_
  refine L_v (opv_assign rfl) rfl ?_
  refine L_nil ?_
  refine K_then ?_
  refine J_seq ?_
  refine J_seq ?_
  refine J_region ?_
  refine L_v (opv_move rfl) rfl ?_
  first
    | refine L_v (opv_lenL rfl) rfl ?_
    | refine L_v (opv_lenS rfl) rfl ?_
  refine L_v ((opv_gtr rfl rfl).bool_f (by omega)) rfl ?_
  refine L_nil ?_
  refine K_then ?_
  refine J_cond_false rfl ?_
  refine J_skip ?_
  refine K_then ?_
  refine J_seq ?_
  refine J_region ?_
  refine L_v (opv_move rfl) rfl ?_
  refine L_x rfl (opx_call0 (D_bad s (by omega) h) rfl rfl rfl) (fun _ _ => ?_)
  refine L_emp ?_
  refine L_v (opv_move rfl) rfl ?_
  refine L_v (opv_extract (v := .agg [.int .i64 0, .bool false, .int .i64 0, .int .i64 0, .int .i64 0, .int .u8 0, .int .u8 0, .int .u8 0, .int .u8 0, .int .u8 0, .int .u8 0, .int .u8 0, .int .u8 0, .string ⟨#[]⟩].toArray) rfl rfl) rfl ?_
  refine L_v (opv_extract rfl rfl) rfl ?_
  refine L_x rfl (opx_alloc rfl) (fun b3 _ => ?_)
  refine L_x rfl (opx_store rfl rfl rfl (by simp [Value.oneCell'])) (fun _ _ => ?_)
  refine L_v (opv_assign rfl) rfl ?_
  refine L_nil ?_
  refine K_then ?_
  refine J_seq ?_
  refine J_seq ?_
  refine J_region ?_
  refine L_v (opv_move rfl) rfl ?_
  refine L_v ((opv_neq rfl rfl).bool_t h) rfl ?_
  refine L_nil ?_
  refine K_then ?_
  refine J_cond_true rfl ?_
  refine J_seq ?_
  refine J_region ?_
  refine L_v (opv_loadS rfl) rfl ?_
  refine L_v (opv_build rfl) rfl ?_
  refine L_v ((opv_eqlF rfl rfl (by simp [Shape, CK.sh]) (by simp [Shape, CK.sh])).bool_t rfl) rfl ?_
  refine L_v (opv_move rfl) rfl ?_
  refine L_gon rfl rfl rfl ?_
  refine L_x rfl (opx_call0 (pawake_spec) rfl rfl rfl) (fun _ _ => ?_)
  refine L_emp ?_
  first
    | refine L_v (opv_pick_tt rfl rfl) rfl ?_
    | refine L_v (opv_pick_ff rfl rfl) rfl ?_
    | refine L_v (opv_pick rfl rfl rfl) rfl ?_
  refine L_v (opv_assign rfl) rfl ?_
  refine L_nil ?_
  refine K_then ?_
  refine J_ret ?_
  refine K_then_ret ?_
  exact K_ret1 rfl rfl () trivial (rfl) Ent.take


theorem E_again (s : ByteArray) (hs : s.size ≤ 5000) (h : (decP s).2 = 0) : FSpec Try.prog 24 #[.agg [.int .i64 (decP s).1.id, .bool (decP s).1.more, .int .i64 (decP s).1.off, .int .i64 (decP s).1.ttl, .int .i64 (decP s).1.proto, .int .u8 (decP s).1.s0, .int .u8 (decP s).1.s1, .int .u8 (decP s).1.s2, .int .u8 (decP s).1.s3, .int .u8 (decP s).1.d0, .int .u8 (decP s).1.d1, .int .u8 (decP s).1.d2, .int .u8 (decP s).1.d3, .string (decP s).1.data].toArray] emp (fun _ : Unit => True) (fun _ => .tuple #[.string (s.extract 0 (word s 2)), .int .i64 0]) (fun _ => emp) := by
  have hp := decP_ok (s := s) (by omega)
  obtain ⟨h1, h2⟩ := decP_again h
  have hl := word_lt s 2
  have e := (decP_good h).1
  have := Ip4Encode_ok (decP s).1 hp (by rw [e]; exact parseP_fields s) (by rw [e]; show (parseP s).data.size ≤ 65515; omega)
  rw [e] at this ⊢
  dsimp only at this ⊢
  rw [h1] at this
  exact this

theorem PA_ok (W : World) (s : ByteArray) (hs : s.size ≤ 5000) (h : (decP s).2 = 0) : FSpec Try.prog 11 #[.string s] (old W) (fun _ : Unit => True) (fun _ => .bool true) (fun _ => old W) := by
  have hle := (decP_good h).2.2.2.2.2.2.2
  have hsz : (s.extract 0 (word s 2)).size = word s 2 := ext_size s _ _ hle
  refine FSpec.enter' Try.func11 rfl Try.ntmps11 rfl fun σ F => ?_
  refine J_seq ?_
  refine J_region ?_
  refine L_v (opv_assign rfl) rfl ?_
  refine L_nil ?_
  refine K_then ?_
  refine J_seq ?_
  refine J_seq ?_
  refine J_region ?_
  refine L_v (opv_move rfl) rfl ?_
  first
    | refine L_v (opv_lenL rfl) rfl ?_
    | refine L_v (opv_lenS rfl) rfl ?_
  refine L_v ((opv_gtr rfl rfl).bool_f (by omega)) rfl ?_
  refine L_nil ?_
  refine K_then ?_
  refine J_cond_false rfl ?_
  refine J_skip ?_
  refine K_then ?_
  refine J_seq ?_
  refine J_region ?_
  refine L_v (opv_move rfl) rfl ?_
  refine L_x rfl (opx_call0 (D_lit s (by omega)) rfl rfl rfl) (fun _ _ => ?_)
  refine L_emp ?_
  refine L_v (opv_move rfl) rfl ?_
  refine L_v (opv_extract (v := .agg [.int .i64 (decP s).1.id, .bool (decP s).1.more, .int .i64 (decP s).1.off, .int .i64 (decP s).1.ttl, .int .i64 (decP s).1.proto, .int .u8 (decP s).1.s0, .int .u8 (decP s).1.s1, .int .u8 (decP s).1.s2, .int .u8 (decP s).1.s3, .int .u8 (decP s).1.d0, .int .u8 (decP s).1.d1, .int .u8 (decP s).1.d2, .int .u8 (decP s).1.d3, .string (decP s).1.data].toArray) rfl rfl) rfl ?_
  refine L_v (opv_extract rfl rfl) rfl ?_
  refine L_x rfl (opx_alloc rfl) (fun b3 _ => ?_)
  refine L_x rfl (opx_store rfl rfl rfl (by simp [Value.oneCell'])) (fun _ _ => ?_)
  refine L_v (opv_assign rfl) rfl ?_
  refine L_nil ?_
  refine K_then ?_
  refine J_seq ?_
  refine J_seq ?_
  refine J_region ?_
  refine L_v (opv_move rfl) rfl ?_
  refine L_v ((opv_neq rfl rfl).bool_f (fun n => n h)) rfl ?_
  refine L_nil ?_
  refine K_then ?_
  refine J_cond_false rfl ?_
  refine J_skip ?_
  refine K_then ?_
  refine J_seq ?_
  refine J_region ?_
  refine L_v (opv_loadS rfl) rfl ?_
  refine L_x rfl (opx_call0 (E_again s hs h) rfl rfl rfl) (fun _ _ => ?_)
  refine L_emp ?_
  refine L_v (opv_move rfl) rfl ?_
  refine L_v (opv_extract rfl rfl) rfl ?_
  refine L_v (opv_extract rfl rfl) rfl ?_
  refine L_v (opv_assign rfl) rfl ?_
  refine L_v (opv_assign rfl) rfl ?_
  refine L_nil ?_
  refine K_then ?_
  refine J_seq ?_
  refine J_region ?_
  refine L_v (opv_move rfl) rfl ?_
  refine L_v ((opv_eql rfl rfl).bool_t rfl) rfl ?_
  refine L_v (opv_move rfl) rfl ?_
  refine L_gon rfl rfl rfl ?_
  refine L_v (opv_move rfl) rfl ?_
  refine L_gon rfl rfl rfl ?_
  first
    | refine L_v (opv_lenL rfl) rfl ?_
    | refine L_v (opv_lenS rfl) rfl ?_
  refine L_gon rfl rfl rfl ?_
  refine L_v (opv_move rfl) rfl ?_
  refine L_gon rfl rfl rfl ?_
  first
    | refine L_v (opv_lenL rfl) rfl ?_
    | refine L_v (opv_lenS rfl) rfl ?_
  refine L_gon rfl rfl rfl ?_
  refine L_v ((opv_leq rfl rfl).bool_t (by rw [hsz]; omega)) rfl ?_
  first
    | refine L_v (opv_pick_tt rfl rfl) rfl ?_
    | refine L_v (opv_pick_ff rfl rfl) rfl ?_
    | refine L_v (opv_pick rfl rfl rfl) rfl ?_
  refine L_v (opv_move rfl) rfl ?_
  refine L_gon rfl rfl rfl ?_
  refine L_v (opv_move rfl) rfl ?_
  refine L_gon rfl rfl rfl ?_
  refine L_v (opv_move rfl) rfl ?_
  refine L_gon rfl rfl rfl ?_
  refine L_v (opv_move rfl) rfl ?_
  refine L_gon rfl rfl rfl ?_
  first
    | refine L_v (opv_lenL rfl) rfl ?_
    | refine L_v (opv_lenS rfl) rfl ?_
  refine L_gon rfl rfl rfl ?_
  refine L_v ((opv_sliceShi rfl rfl (by omega)).as (v' := .string (s.extract 0 (word s 2))) (by rw [Int.toNat_natCast, hsz])) rfl ?_
  refine L_gon rfl rfl rfl ?_
  refine L_v ((opv_eqlS rfl rfl).bool_t rfl) rfl ?_
  first
    | refine L_v (opv_pick_tt rfl rfl) rfl ?_
    | refine L_v (opv_pick_ff rfl rfl) rfl ?_
    | refine L_v (opv_pick rfl rfl rfl) rfl ?_
  refine L_v (opv_move rfl) rfl ?_
  refine L_gon rfl rfl rfl ?_
  refine L_x rfl (opx_call0 (pawake_spec) rfl rfl rfl) (fun _ _ => ?_)
  refine L_emp ?_
  first
    | refine L_v (opv_pick_tt rfl rfl) rfl ?_
    | refine L_v (opv_pick_ff rfl rfl) rfl ?_
    | refine L_v (opv_pick rfl rfl rfl) rfl ?_
  refine L_v (opv_assign rfl) rfl ?_
  refine L_nil ?_
  refine K_then ?_
  refine J_ret ?_
  exact K_ret1 rfl rfl () trivial (rfl) Ent.take

theorem Ipv4Again_law (W : World) (s : ByteArray) : FSpec Try.prog 11 #[.string s] (old W) (fun _ : Unit => True) (fun _ => .bool true) (fun _ => old W) := by
  by_cases h5 : 5000 < s.size
  · exact PA_big W s h5
  · by_cases h : (decP s).2 = 0
    · exact PA_ok W s (by omega) h
    · exact PA_bad W s (by omega) h

end Go.Proofs.Ytkkomlcjcgdbeaa
namespace Go.Proofs.Ytkkomlcjcgdbeaa.ipv4Again
open Go.ChangeShapes Go.WideShapes Go.ChangeAt Go.RowKit Go.SLA
open Go.ChangeMaps (open_string shut_string)
set_option linter.unusedVariables false
theorem own : ownKnob Try.prog.godebug = none := by kernel_rfl
theorem laidOut : laidOutB Try.prog = true := by kernel_rfl
set_option maxRecDepth 100000 in
theorem lifted (os : Os) (started : os.Started) (H : Type) (enc : TypeId × Value → H) :
    ReturnsInHanded {} Try.checked os 11 .any (Rows.ipv4AgainSpec.pre6 enc Try.prog Try.f11 Rows.ipv4AgainRow.domain false) (Rows.ipv4AgainSpec.post enc Try.prog Try.f11 false true false false) := by
  refine returnsInHanded_of_change_sized (C := Try.checked) own started (by kernel_rfl) Try.func11
    (ChangeSpec.witness6 (enc := enc) (C := Try.checked) false ⟨#[], #[.string ByteArray.empty], []⟩ 8 (by kernel_rfl) (by kernel_rfl) (by kernel_rfl) (by kernel_rfl)) ?_
  intro W base args ds gs before hval0 hW hcnd hsz0 _
  have hsz : (DataW.weightsEach Try.prog (Try.f11.params.toList ++ Rows.ipv4AgainSpec.plain.varTypes Try.prog) (ds ++ gs)).all (· ≤ reachBytes) = true := hsz0
  have hval : ∀ (j : Nat) t v, Try.f11.params[j]? = some t → args[j]? = some v → Value.okWide Try.prog W .any base t v := hval0
  have hW' := hW
  obtain ⟨p, q, hA0, hV, rfl, hfz, hnd⟩ := hW
  have hA : DataW.TrodAll enc Try.prog W 0 (fun _ => true) true Try.f11.params.toList args.toList ds p := hA0
  rw [Try.params11] at hA hval hsz
  obtain ⟨v0, vs0, d0, ds0, p0, q0, hargs, rfl, rfl, h0, r0⟩ := trodAll_cons hA
  obtain ⟨rfl, rfl, rfl⟩ := trodAll_nil r0
  obtain rfl : args = #[v0] := by cases args; simp_all
  obtain ⟨rfl, rfl⟩ := trodVars_none hV
  have k0 := h0
  have lt0 : ∀ x ∈ p0, x.block < W.heap.size := by obtain ⟨m, hm⟩ := k0; exact DataW.trod_lt m _ _ _ hm
  obtain ⟨a0, rfl, rfl, rfl, y0⟩ := open_string Try.underlying9 (hval 0 9 v0 rfl rfl) h0
  have z0 := sized_string hsz (j := 0) (t := 9) rfl rfl
  rw [Array.length_toList] at z0
  clear hA0 hval0 hsz0 hsz
  refine (FSpec.law (Ipv4Again_law W a0)).mono fun e W' ⟨he, bel⟩ => ?_
  subst he
  exact ⟨_, rfl, _, _, _, [], _, [], hW', trodAll_mk1 (shut_bool Try.underlying4 _), (trodAll_cons_mk (Below.trod laidOut (by kernel_rfl) (of_decide_eq_true (by kernel_rfl)) k0 bel lt0) trodAll_mk0), rfl, bel.frame _, fun h => by cases h⟩
theorem over : Rows.ipv4AgainRow.holds Try.pinned (OpenSpec.ofChange Rows.ipv4AgainSpec) :=
  OpenClaim.holds_of_wide 11 Try.f11 rfl rfl rfl rfl rfl rfl rfl ⟨rfl, rfl, rfl, rfl, rfl⟩ rfl rfl rfl rfl rfl (by kernel_rfl) Try.func11 (by kernel_rfl)
    (of_decide_eq_true (by kernel_rfl)) (by unfold Func.isWrapper; first | (rw [if_pos (by decide +kernel)]; kernel_rfl) | (rw [if_neg (by decide +kernel)]; exact ⟨rfl, rfl⟩))
    (fun os started H enc _ => lifted os started H enc)
end Go.Proofs.Ytkkomlcjcgdbeaa.ipv4Again
namespace Go.Proofs.Ytkkomlcjcgdbeaa
theorem ipv4Again_holds : Rows.Ipv4AgainSaid := ipv4Again.over
#print axioms ipv4Again_holds
end Go.Proofs.Ytkkomlcjcgdbeaa
namespace Go.Proofs.Ytkkomlcjcgdbeaa
open Go.SLA
end Go.Proofs.Ytkkomlcjcgdbeaa
