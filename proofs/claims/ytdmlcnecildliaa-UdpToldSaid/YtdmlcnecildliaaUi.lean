/- The law UdpTold of the package pitotlaw06 holds for every input: a datagram of which one byte is another one, but of the length and of a sum that becomes 0, is told so. No condition. -/
import Derived.Test.YtdmlcnecildliaaUh
import Derived.Test.YtdmlcnecildliaaTa
import Derived.Test.YtdmlcnecildliaaH
namespace Go.Proofs.Ytdmlcnecildliaa
open Go.SLA
set_option maxRecDepth 100000
set_option linter.unusedVariables false
set_option linter.unusedSimpArgs false
attribute [local irreducible] J L K QL Rg FSpec OpV OpX Rd Back
attribute [local irreducible] be usum ones sumT word nextC datag encU decU withSum bn

theorem sumT_bn (a b : List Int) (s : ByteArray) (i : Nat) : bn (sumT a b s) ((bytesL a ++ bytesL b ++ be 17 2 ++ be s.size 2).size + i) = bn s i := by
  unfold sumT
  rw [bn_app_r (by omega), Nat.add_sub_cancel_left]
theorem sumT_bn_l (a b : List Int) (s r : ByteArray) (h : s.size = r.size) {i : Nat} (hi : i < (bytesL a ++ bytesL b ++ be 17 2 ++ be s.size 2).size) : bn (sumT a b s) i = bn (sumT a b r) i := by
  unfold sumT
  rw [← h, bn_app_l hi, bn_app_l hi]
theorem sumT_size (a b : List Int) (s : ByteArray) : (sumT a b s).size = (bytesL a ++ bytesL b ++ be 17 2 ++ be s.size 2).size + s.size := by unfold sumT; rw [ByteArray.size_append]
theorem usum_ne {a b : List Int} {s r : ByteArray} (hs : s.size = r.size) {k : Nat} (hk : k < s.size) (hn : bn s k ≠ bn r k) (h : ∀ i, i < s.size → i ≠ k → bn s i = bn r i) : usum a b s ≠ usum a b r := by
  have e : (bytesL a ++ bytesL b ++ be 17 2 ++ be r.size 2).size = (bytesL a ++ bytesL b ++ be 17 2 ++ be s.size 2).size := by rw [hs]
  have := ones_ne (s := sumT a b s) (r := sumT a b r) (by rw [sumT_size, sumT_size, e, hs]) (a := (bytesL a ++ bytesL b ++ be 17 2 ++ be s.size 2).size + k) (by rw [sumT_size]; omega)
    (by rw [sumT_bn, ← e, sumT_bn]; exact hn) (fun i hi hik => by
      rw [sumT_size] at hi
      rcases Nat.lt_or_ge i (bytesL a ++ bytesL b ++ be 17 2 ++ be s.size 2).size with c | c
      · exact sumT_bn_l a b s r hs c
      · obtain ⟨j, rfl⟩ : ∃ j, i = (bytesL a ++ bytesL b ++ be 17 2 ++ be s.size 2).size + j := ⟨_, (Nat.add_sub_cancel' c).symm⟩
        rw [sumT_bn, ← e, sumT_bn]
        exact h j (by omega) (by omega))
  have l1 := ones_le (sumT a b s)
  have l2 := ones_le (sumT a b r)
  unfold usum
  split <;> split <;> omega
theorem summed_bn {s : ByteArray} (h : 8 ≤ s.size) (i : Nat) : bn (summed s) i = if i < 6 then bn s i else if i < 6 + 2 then 0 else if i < s.size then bn s i else 0 := bn_gap (m := 6) (by omega) (Nat.le_refl _) i
theorem summed_size {s : ByteArray} (h : 8 ≤ s.size) : (summed s).size = s.size := gap_size (m := 6) (by omega) (Nat.le_refl _)
theorem told_decU {x : En} {t : ByteArray} (h : portsB x) (ht : t.size ≤ 8192) {k u : Nat} (hk : k < 8 + t.size) (hk4 : k ≠ 4) (hk5 : k ≠ 5) (hu : u < 256) (hn : u ≠ bn (datag x t) k) (h0 : word (setB (datag x t) k u) 6 ≠ 0) : (decU x (setB (datag x t) k u)).2.2 = 12 := by
  have hz := datag_size x t
  have hz' := setB_size (datag x t) k u
  have hkz : k < (datag x t).size := by omega
  have w4 : word (datag x t) 4 = 8 + t.size := by rw [datag_eq]; exact ws_w4 (be_size _ _) ht
  have w6 : word (datag x t) 6 = usum x.a x.b (summed (datag x t)) := by
    rw [datag_eq, ws_w6 (be_size _ _), ws_summed (be_size _ _)]
    exact word_be (usum_le _ _ _)
  have w4' : word (setB (datag x t) k u) 4 = 8 + t.size := by rw [word_setB hkz hu hk4 hk5, w4]
  have hne : word (setB (datag x t) k u) 6 ≠ usum x.a x.b (summed (setB (datag x t) k u)) := by
    by_cases c : k = 6 ∨ k = 6 + 1
    · have e : summed (setB (datag x t) k u) = summed (datag x t) := by
        refine bn_ext (by rw [summed_size (by omega), summed_size (by omega), hz']) fun i hi => ?_
        rw [summed_bn (by omega), summed_bn (by omega), hz']
        (repeat' split) <;> first | rfl | (rw [bn_setB hkz hu, if_neg (by omega)])
      rw [e, ← w6]
      exact word_setB_ne hkz hu c hn
    · rw [word_setB hkz hu (by omega) (by omega), w6]
      have hc : ∀ i, bn (summed (setB (datag x t) k u)) i = if i = k then u else bn (summed (datag x t)) i := fun i => by
        rw [summed_bn (by omega), summed_bn (by omega), hz', bn_setB hkz hu]
        by_cases e : i = k
        · subst e
          rw [if_pos rfl, if_pos rfl]
          split
          · rfl
          · first | rfl | (rw [if_neg (by omega), if_pos (by omega)]) | (rw [if_neg (by omega)])
        · rw [if_neg e, if_neg e]
      refine usum_ne (k := k) (by rw [summed_size (by omega), summed_size (by omega), hz']) (by rw [summed_size (by omega)]; omega) ?_ (fun i _ hi => by rw [hc, if_neg hi])
      rw [hc, if_pos rfl, summed_bn (by omega)]
      intro e
      refine hn (e.symm.trans ?_)
      split
      · rfl
      · first | rfl | (rw [if_neg (by omega), if_pos (by omega)]) | (rw [if_neg (by omega)])
  unfold decU
  rw [if_neg (by omega), if_neg (by omega), if_neg (by omega), if_neg (by omega), if_pos ⟨h0, hne⟩]
theorem UD_told (x : En) (t : ByteArray) (hx : okEn x) (h : portsB x) (ht : t.size ≤ 8192) {k u : Nat} (hk : k < 8 + t.size) (hk4 : k ≠ 4) (hk5 : k ≠ 5) (hu : u < 256) (hn : u ≠ bn (datag x t) k) (h0 : word (setB (datag x t) k u) 6 ≠ 0) : FSpec Try.prog 34 #[.agg [.int .u8 x.a0, .int .u8 x.a1, .int .u8 x.a2, .int .u8 x.a3].toArray, .agg [.int .u8 x.b0, .int .u8 x.b1, .int .u8 x.b2, .int .u8 x.b3].toArray, .string (setB (datag x t) k u)] emp (fun _ : Unit => True) (fun _ => .tuple #[.agg [.int .u8 0, .int .u8 0, .int .u8 0, .int .u8 0, .int .u8 0, .int .u8 0, .int .u8 0, .int .u8 0, .int .i64 0, .int .i64 0].toArray, .string ByteArray.empty, .int .i64 12]) (fun _ => emp) := by
  have e := told_decU h ht hk hk4 hk5 hu hn h0
  have hz := datag_size x t
  have hz' := setB_size (datag x t) k u
  have := UD_bad x (setB (datag x t) k u) hx (by omega) (by rw [e]; decide)
  rwa [e] at this
theorem wrap256 (v : Int) : IntKind.u8.wrap v = (((v % 256).toNat : Nat) : Int) := by
  have : IntKind.u8.wrap v = v % 256 := by simp [IntKind.wrap, IntKind.bits, IntKind.signed]
  rw [this]
  omega

theorem UT_big (W : World) (x : En) (t : ByteArray) (k u : Int) (h : 2000 < t.size) : FSpec Try.prog 10 #[.agg (encEn x).toArray, .string t, .agg #[.int .i64 k, .int .i64 u]] (old W) (fun _ : Unit => True) (fun _ => .bool true) (fun _ => old W) := by
  refine FSpec.enter' Try.func10 rfl Try.ntmps10 rfl fun σ F => ?_
  refine J_seq ?_
  refine J_region ?_
  refine L_x rfl (opx_box (l := [.int .u8 x.a0, .int .u8 x.a1, .int .u8 x.a2, .int .u8 x.a3, .int .u8 x.b0, .int .u8 x.b1, .int .u8 x.b2, .int .u8 x.b3, .int .i64 x.f, .int .i64 x.g]) rfl rfl) (fun b3 _ => ?_)
  refine L_x rfl (opx_box (l := [.int .i64 k, .int .i64 u]) rfl rfl) (fun b5 _ => ?_)
  refine L_v (opv_assign rfl) rfl ?_
  refine L_nil ?_
  refine K_then ?_
  refine J_seq ?_
  refine J_seq ?_
  refine J_region ?_
  refine L_v (opv_move rfl) rfl ?_
  first
    | refine L_v (opv_lenL rfl) rfl ?_
    | refine L_v (opv_lenS rfl) rfl ?_
  refine L_v ((opv_gtr rfl rfl).bool_t (by omega)) rfl ?_
  refine L_nil ?_
  refine K_then ?_
  refine J_cond_true rfl ?_
  refine J_seq ?_
  refine J_region ?_
  refine L_x rfl (opx_call0 (uawake_spec) rfl rfl rfl) (fun _ _ => ?_)
  refine L_emp ?_
  refine L_v (opv_assign rfl) rfl ?_
  refine L_nil ?_
  refine K_then ?_
  refine J_ret ?_
  refine K_then_ret ?_
  exact K_ret1 rfl rfl () trivial (rfl) Ent.take

theorem UT_ok (W : World) (x : En) (t : ByteArray) (k u : Int) (hx : okEn x) (ht : t.size ≤ 2000) : FSpec Try.prog 10 #[.agg (encEn x).toArray, .string t, .agg #[.int .i64 k, .int .i64 u]] (old W) (fun _ : Unit => True) (fun _ => .bool true) (fun _ => old W) := by
  refine FSpec.enter' Try.func10 rfl Try.ntmps10 rfl fun σ F => ?_
  refine J_seq ?_
  refine J_region ?_
  refine L_x rfl (opx_box (l := [.int .u8 x.a0, .int .u8 x.a1, .int .u8 x.a2, .int .u8 x.a3, .int .u8 x.b0, .int .u8 x.b1, .int .u8 x.b2, .int .u8 x.b3, .int .i64 x.f, .int .i64 x.g]) rfl rfl) (fun b3 _ => ?_)
  refine L_x rfl (opx_box (l := [.int .i64 k, .int .i64 u]) rfl rfl) (fun b5 _ => ?_)
  refine L_v (opv_assign rfl) rfl ?_
  refine L_nil ?_
  refine K_then ?_
  refine J_seq ?_
  refine J_seq ?_
  refine J_region ?_
  refine L_v (opv_move rfl) rfl ?_
  first
    | refine L_v (opv_lenL rfl) rfl ?_
    | refine L_v (opv_lenS rfl) rfl ?_
  refine L_v ((opv_gtr rfl rfl).bool_f (by omega)) rfl ?_
  refine L_nil ?_
  refine K_then ?_
  refine J_cond_false rfl ?_
  refine J_skip ?_
  refine K_then ?_
  refine J_seq ?_
  refine J_region ?_
  refine L_v (opv_loadS rfl) rfl ?_
  refine L_v (opv_move rfl) rfl ?_
  refine L_x rfl (opx_call0 (Encode_any x t hx) rfl rfl rfl) (fun _ _ => ?_)
  refine L_emp ?_
  refine L_v (opv_move rfl) rfl ?_
  refine L_v (opv_extract rfl rfl) rfl ?_
  refine L_v (opv_extract rfl rfl) rfl ?_
  refine L_v (opv_assign rfl) rfl ?_
  refine L_v (opv_assign rfl) rfl ?_
  refine L_nil ?_
  refine K_then ?_
  refine J_seq ?_
  refine J_region ?_
  refine L_v ((opv_indexAddrA rfl rfl (by omega)).as (v' := .pointer (some (ad b5 0))) rfl) rfl ?_
  refine L_v (opv_load rfl (Rd.look rfl)) rfl ?_
  refine L_v (opv_assign rfl) rfl ?_
  refine L_nil ?_
  refine K_then ?_
  refine J_seq ?_
  refine J_region ?_
  refine L_v ((opv_indexAddrA rfl rfl (by omega)).as (v' := .pointer (some (ad b5 1))) rfl) rfl ?_
  refine L_v (opv_load rfl (Rd.look rfl)) rfl ?_
  refine L_v ((opv_convert rfl).as (v' := .int .u8 (((u % 256).toNat : Nat) : Int)) (congrArg (Value.int .u8) (wrap256 u))) rfl ?_
  refine L_v (opv_assign rfl) rfl ?_
  refine L_nil ?_
  refine K_then ?_
  refine J_seq ?_
  refine J_seq ?_
  refine J_region ?_
  refine L_v (opv_move rfl) rfl ?_
  first
    | refine L_v (opv_neq rfl rfl) rfl ?_
    | refine L_v (opv_neqS rfl rfl) rfl ?_
    | refine L_v (opv_neqNil rfl rfl) rfl ?_
    | refine L_v (opv_neqB rfl rfl) rfl ?_
  refine L_v (opv_move rfl) rfl ?_
  refine L_gf rfl rfl (fun h1 => ?_) (fun h1 => ?_) (fun _ h => by cases h; rfl)
  · refine L_v (opv_move rfl) rfl ?_
    refine L_gf_on h1 rfl rfl ?_
    refine L_v (opv_lss rfl rfl) rfl ?_
    refine L_v (opv_pick_f rfl h1 rfl) rfl ?_
    refine L_v (opv_move rfl) rfl ?_
    refine L_gf rfl rfl (fun h2 => ?_) (fun h2 => ?_) (fun _ h => by cases h; rfl)
    · refine L_v (opv_move rfl) rfl ?_
      refine L_gf_on h2 rfl rfl ?_
      refine L_v (opv_move rfl) rfl ?_
      refine L_gf_on h2 rfl rfl ?_
      first
        | refine L_v (opv_lenL rfl) rfl ?_
        | refine L_v (opv_lenS rfl) rfl ?_
      refine L_gf_on h2 rfl rfl ?_
      refine L_v (opv_geq rfl rfl) rfl ?_
      refine L_v (opv_pick_f rfl h2 rfl) rfl ?_
      refine L_v (opv_move rfl) rfl ?_
      refine L_gf rfl rfl (fun h3 => ?_) (fun h3 => ?_) (fun _ h => by cases h; rfl)
      · refine L_v (opv_move rfl) rfl ?_
        refine L_gf_on h3 rfl rfl ?_
        first
          | refine L_v (opv_eql rfl rfl) rfl ?_
          | refine L_v (opv_eqlS rfl rfl) rfl ?_
          | refine L_v (opv_eqlNil rfl rfl) rfl ?_
          | refine L_v (opv_eqlB rfl rfl) rfl ?_
        refine L_v (opv_pick_f rfl h3 rfl) rfl ?_
        refine L_v (opv_move rfl) rfl ?_
        refine L_gf rfl rfl (fun h4 => ?_) (fun h4 => ?_) (fun _ h => by cases h; rfl)
        · refine L_v (opv_move rfl) rfl ?_
          refine L_gf_on h4 rfl rfl ?_
          first
            | refine L_v (opv_eql rfl rfl) rfl ?_
            | refine L_v (opv_eqlS rfl rfl) rfl ?_
            | refine L_v (opv_eqlNil rfl rfl) rfl ?_
            | refine L_v (opv_eqlB rfl rfl) rfl ?_
          refine L_v (opv_pick_f rfl h4 rfl) rfl ?_
          refine L_v (opv_move rfl) rfl ?_
          refine L_gf rfl rfl (fun h5 => ?_) (fun h5 => ?_) (fun _ h => by cases h; rfl)
          · refine L_v (opv_move rfl) rfl ?_
            refine L_gf_on h5 rfl rfl ?_
            first
              | refine L_v (opv_eql rfl rfl) rfl ?_
              | refine L_v (opv_eqlS rfl rfl) rfl ?_
              | refine L_v (opv_eqlNil rfl rfl) rfl ?_
              | refine L_v (opv_eqlB rfl rfl) rfl ?_
            refine L_v (opv_pick_f rfl h5 rfl) rfl ?_
            refine L_nil ?_
            refine K_then ?_
            refine J_cond rfl (fun h6 => ?_) (fun h6 => ?_)
            · refine J_seq ?_
              refine J_region ?_
              refine L_x rfl (opx_call0 (uawake_spec) rfl rfl rfl) (fun _ _ => ?_)
              refine L_emp ?_
              refine L_v (opv_assign rfl) rfl ?_
              refine L_nil ?_
              refine K_then ?_
              refine J_ret ?_
              refine K_then_ret ?_
              exact K_ret1 rfl rfl () trivial (rfl) Ent.take
            · refine J_skip ?_
              refine K_then ?_
              refine J_seq ?_
              obtain ⟨hn, hl, he⟩ := encU_ok (x := x) (t := t) (by assumption)
              have hds := datag_size x t
              have hes : (encU x t).1.size = (datag x t).size := by rw [he]
              rw [he]
              dsimp only
              refine J_region ?_
              refine L_v (opv_move rfl) rfl ?_
              refine L_x rfl (opx_s2b rfl rfl) (fun y56 _ => ?_)
              refine L_v (opv_assign rfl) rfl ?_
              refine L_nil ?_
              refine K_then ?_
              refine J_seq ?_
              refine J_region ?_
              refine L_v (opv_move rfl) rfl ?_
              refine L_v (opv_move rfl) rfl ?_
              refine L_v (opv_move rfl) rfl ?_
              refine L_v (opv_move rfl) rfl ?_
              refine L_v ((opv_indexAddr rfl rfl (by omega)).as (v' := .pointer (some (ad y56.1 k.toNat))) (by rw [Nat.zero_add, Nat.mul_one] <;> rfl)) rfl ?_
              refine L_v ((opv_load rfl (Rd.byb (s := datag x t) (c := y56.2) (e := 5) (by omega))).as (v' := .int .u8 ((bn (datag x t) k.toNat : Nat) : Int)) (congrArg (Value.int .u8) (byt_bn _ _))) rfl ?_
              refine L_v (opv_move rfl) rfl ?_
              refine L_v (opv_xor8 rfl rfl (bn_lt _ _) (by omega)) rfl ?_
              refine L_v ((opv_indexAddr rfl rfl (by omega)).as (v' := .pointer (some (ad y56.1 k.toNat))) (by rw [Nat.zero_add, Nat.mul_one] <;> rfl)) rfl ?_
              refine L_x rfl (opx_storeB (te := 5) (s := datag x t) (c := y56.2) rfl rfl (by omega) (xor8_lt (bn_lt _ _) (by omega))) (fun _ _ => ?_)
              refine L_nil ?_
              refine K_then ?_
              refine J_seq ?_
              refine J_seq ?_
              refine J_region ?_
              refine L_v (opv_move rfl) rfl ?_
              first
                | refine L_v (opv_lenL rfl) rfl ?_
                | refine L_v (opv_lenS rfl) rfl ?_
              refine L_v ((opv_lss rfl rfl).bool_f (by omega)) rfl ?_
              refine L_v (opv_move rfl) rfl ?_
              refine L_gon rfl rfl rfl ?_
              refine L_v (opv_move rfl) rfl ?_
              refine L_gon rfl rfl rfl ?_
              refine L_v ((opv_indexAddr rfl rfl (by omega)).as (v' := .pointer (some (ad y56.1 6))) (by rw [Nat.zero_add, Nat.mul_one] <;> rfl)) rfl ?_
              refine L_gon rfl rfl rfl ?_
              refine L_v ((opv_load rfl (Rd.byb (s := (setB (datag x t) k.toNat (bn (datag x t) k.toNat ^^^ (u % 256).toNat))) (c := y56.2) (e := 5) (by rw [setB_size]; omega))).as (v' := .int .u8 ((bn (setB (datag x t) k.toNat (bn (datag x t) k.toNat ^^^ (u % 256).toNat)) 6 : Nat) : Int)) (congrArg (Value.int .u8) (byt_bn _ _))) rfl ?_
              refine L_gon rfl rfl rfl ?_
              first
                | refine L_v (opv_eql rfl rfl) rfl ?_
                | refine L_v (opv_eqlS rfl rfl) rfl ?_
                | refine L_v (opv_eqlNil rfl rfl) rfl ?_
                | refine L_v (opv_eqlB rfl rfl) rfl ?_
              refine L_gon rfl rfl rfl ?_
              refine L_v (opv_move rfl) rfl ?_
              refine L_gt rfl rfl (fun h7 => ?_) (fun h7 => ?_) (fun _ h => by cases h; rfl)
              · refine L_v (opv_move rfl) rfl ?_
                refine L_gt_on h7 rfl rfl ?_
                refine L_v ((opv_indexAddr rfl rfl (by omega)).as (v' := .pointer (some (ad y56.1 7))) (by rw [Nat.zero_add, Nat.mul_one] <;> rfl)) rfl ?_
                refine L_gt_on h7 rfl rfl ?_
                refine L_v ((opv_load rfl (Rd.byb (s := (setB (datag x t) k.toNat (bn (datag x t) k.toNat ^^^ (u % 256).toNat))) (c := y56.2) (e := 5) (by rw [setB_size]; omega))).as (v' := .int .u8 ((bn (setB (datag x t) k.toNat (bn (datag x t) k.toNat ^^^ (u % 256).toNat)) 7 : Nat) : Int)) (congrArg (Value.int .u8) (byt_bn _ _))) rfl ?_
                refine L_gt_on h7 rfl rfl ?_
                first
                  | refine L_v (opv_eql rfl rfl) rfl ?_
                  | refine L_v (opv_eqlS rfl rfl) rfl ?_
                  | refine L_v (opv_eqlNil rfl rfl) rfl ?_
                  | refine L_v (opv_eqlB rfl rfl) rfl ?_
                refine L_gon rfl rfl rfl ?_
                refine L_v (opv_pick_t rfl h7 rfl) rfl ?_
                first
                  | refine L_v (opv_pick_tt rfl rfl) rfl ?_
                  | refine L_v (opv_pick_ff rfl rfl) rfl ?_
                  | refine L_v (opv_pick rfl rfl rfl) rfl ?_
                refine L_nil ?_
                refine K_then ?_
                refine J_cond rfl (fun h8 => ?_) (fun h8 => ?_)
                · refine J_seq ?_
                  refine J_region ?_
                  refine L_v (opv_move rfl) rfl ?_
                  first
                    | refine L_v (opv_lenL rfl) rfl ?_
                    | refine L_v (opv_lenS rfl) rfl ?_
                  refine L_v ((opv_geq rfl rfl).bool_t (by omega)) rfl ?_
                  refine L_v (opv_move rfl) rfl ?_
                  refine L_gon rfl rfl rfl ?_
                  refine L_x rfl (opx_call0 (uawake_spec) rfl rfl rfl) (fun _ _ => ?_)
                  refine L_emp ?_
                  first
                    | refine L_v (opv_pick_tt rfl rfl) rfl ?_
                    | refine L_v (opv_pick_ff rfl rfl) rfl ?_
                    | refine L_v (opv_pick rfl rfl rfl) rfl ?_
                  refine L_v (opv_assign rfl) rfl ?_
                  refine L_nil ?_
                  refine K_then ?_
                  refine J_ret ?_
                  refine K_then_ret ?_
                  exact K_ret1 rfl rfl () trivial (rfl) Ent.take
                · refine J_skip ?_
                  refine K_then ?_
                  refine J_seq ?_
                  have hw6 : word (setB (datag x t) k.toNat (bn (datag x t) k.toNat ^^^ (u % 256).toNat)) 6 = bn (setB (datag x t) k.toNat (bn (datag x t) k.toNat ^^^ (u % 256).toNat)) 6 * 256 + bn (setB (datag x t) k.toNat (bn (datag x t) k.toNat ^^^ (u % 256).toNat)) 7 := by unfold word; rfl
                  refine J_region ?_
                  first
                    | refine L_v (opv_fieldAddr0 rfl) rfl ?_
                    | refine L_v (opv_fieldAddr rfl) rfl ?_
                  refine L_v (opv_loadS rfl) rfl ?_
                  first
                    | refine L_v (opv_fieldAddr0 rfl) rfl ?_
                    | refine L_v (opv_fieldAddr rfl) rfl ?_
                  refine L_v (opv_loadS rfl) rfl ?_
                  refine L_v (opv_move rfl) rfl ?_
                  refine L_v ((opv_b2s (s := (setB (datag x t) k.toNat (bn (datag x t) k.toNat ^^^ (u % 256).toNat))) rfl (Src.bybL (e := 5) (setB_size _ _ _)))) rfl ?_
                  refine L_x rfl (opx_call0 (UD_told x t hx hn hl (k := k.toNat) (u := bn (datag x t) k.toNat ^^^ (u % 256).toNat) (by omega) (by omega) (by omega) (xor8_lt (bn_lt _ _) (by omega)) (xor_ne (by omega)) (by omega)) rfl rfl rfl) (fun _ _ => ?_)
                  refine L_emp ?_
                  refine L_v (opv_move rfl) rfl ?_
                  refine L_v (opv_extract (v := .agg [.int .u8 0, .int .u8 0, .int .u8 0, .int .u8 0, .int .u8 0, .int .u8 0, .int .u8 0, .int .u8 0, .int .i64 0, .int .i64 0].toArray) rfl rfl) rfl ?_
                  refine L_v (opv_extract rfl rfl) rfl ?_
                  refine L_v (opv_extract rfl rfl) rfl ?_
                  refine L_x rfl (opx_alloc rfl) (fun b11 _ => ?_)
                  refine L_x rfl (opx_store rfl rfl rfl (by simp [Value.oneCell'])) (fun _ _ => ?_)
                  refine L_v (opv_assign rfl) rfl ?_
                  refine L_v (opv_assign rfl) rfl ?_
                  refine L_nil ?_
                  refine K_then ?_
                  refine J_seq ?_
                  refine J_region ?_
                  refine L_v (opv_loadS rfl) rfl ?_
                  refine L_v (opv_build rfl) rfl ?_
                  refine L_v ((opv_eqlF rfl rfl (by simp [Shape, CK.sh]) (by simp [Shape, CK.sh])).bool_t rfl) rfl ?_
                  refine L_v (opv_move rfl) rfl ?_
                  refine L_gon rfl rfl rfl ?_
                  refine L_v (opv_move rfl) rfl ?_
                  refine L_gon rfl rfl rfl ?_
                  refine L_v ((opv_eqlS rfl rfl).bool_t rfl) rfl ?_
                  first
                    | refine L_v (opv_pick_tt rfl rfl) rfl ?_
                    | refine L_v (opv_pick_ff rfl rfl) rfl ?_
                    | refine L_v (opv_pick rfl rfl rfl) rfl ?_
                  refine L_v (opv_move rfl) rfl ?_
                  refine L_gon rfl rfl rfl ?_
                  refine L_v (opv_move rfl) rfl ?_
                  refine L_gon rfl rfl rfl ?_
                  refine L_v ((opv_eql rfl rfl).bool_t rfl) rfl ?_
                  first
                    | refine L_v (opv_pick_tt rfl rfl) rfl ?_
                    | refine L_v (opv_pick_ff rfl rfl) rfl ?_
                    | refine L_v (opv_pick rfl rfl rfl) rfl ?_
                  refine L_v (opv_move rfl) rfl ?_
                  refine L_gon rfl rfl rfl ?_
                  refine L_x rfl (opx_call0 (uawake_spec) rfl rfl rfl) (fun _ _ => ?_)
                  refine L_emp ?_
                  first
                    | refine L_v (opv_pick_tt rfl rfl) rfl ?_
                    | refine L_v (opv_pick_ff rfl rfl) rfl ?_
                    | refine L_v (opv_pick rfl rfl rfl) rfl ?_
                  refine L_v (opv_assign rfl) rfl ?_
                  refine L_nil ?_
                  refine K_then ?_
                  refine J_ret ?_
                  exact K_ret1 rfl rfl () trivial (rfl) Ent.take
              · refine L_gt_off h7 rfl rfl ?_ (fun _ h => by cases h; rfl)
                refine L_gt_off h7 rfl rfl ?_ (fun _ h => by cases h; rfl)
                refine L_gt_off h7 rfl rfl ?_ (fun _ h => by cases h; rfl)
                refine L_gon rfl rfl rfl ?_
                refine L_v (opv_pick_f rfl h7 rfl) rfl ?_
                first
                  | refine L_v (opv_pick_tt rfl rfl) rfl ?_
                  | refine L_v (opv_pick_ff rfl rfl) rfl ?_
                  | refine L_v (opv_pick rfl rfl rfl) rfl ?_
                refine L_nil ?_
                refine K_then ?_
                refine J_cond_false rfl ?_
                refine J_skip ?_
                refine K_then ?_
                refine J_seq ?_
                have hw6 : word (setB (datag x t) k.toNat (bn (datag x t) k.toNat ^^^ (u % 256).toNat)) 6 = bn (setB (datag x t) k.toNat (bn (datag x t) k.toNat ^^^ (u % 256).toNat)) 6 * 256 + bn (setB (datag x t) k.toNat (bn (datag x t) k.toNat ^^^ (u % 256).toNat)) 7 := by unfold word; rfl
                refine J_region ?_
                first
                  | refine L_v (opv_fieldAddr0 rfl) rfl ?_
                  | refine L_v (opv_fieldAddr rfl) rfl ?_
                refine L_v (opv_loadS rfl) rfl ?_
                first
                  | refine L_v (opv_fieldAddr0 rfl) rfl ?_
                  | refine L_v (opv_fieldAddr rfl) rfl ?_
                refine L_v (opv_loadS rfl) rfl ?_
                refine L_v (opv_move rfl) rfl ?_
                refine L_v ((opv_b2s (s := (setB (datag x t) k.toNat (bn (datag x t) k.toNat ^^^ (u % 256).toNat))) rfl (Src.bybL (e := 5) (setB_size _ _ _)))) rfl ?_
                refine L_x rfl (opx_call0 (UD_told x t hx hn hl (k := k.toNat) (u := bn (datag x t) k.toNat ^^^ (u % 256).toNat) (by omega) (by omega) (by omega) (xor8_lt (bn_lt _ _) (by omega)) (xor_ne (by omega)) (by omega)) rfl rfl rfl) (fun _ _ => ?_)
                refine L_emp ?_
                refine L_v (opv_move rfl) rfl ?_
                refine L_v (opv_extract (v := .agg [.int .u8 0, .int .u8 0, .int .u8 0, .int .u8 0, .int .u8 0, .int .u8 0, .int .u8 0, .int .u8 0, .int .i64 0, .int .i64 0].toArray) rfl rfl) rfl ?_
                refine L_v (opv_extract rfl rfl) rfl ?_
                refine L_v (opv_extract rfl rfl) rfl ?_
                refine L_x rfl (opx_alloc rfl) (fun b11 _ => ?_)
                refine L_x rfl (opx_store rfl rfl rfl (by simp [Value.oneCell'])) (fun _ _ => ?_)
                refine L_v (opv_assign rfl) rfl ?_
                refine L_v (opv_assign rfl) rfl ?_
                refine L_nil ?_
                refine K_then ?_
                refine J_seq ?_
                refine J_region ?_
                refine L_v (opv_loadS rfl) rfl ?_
                refine L_v (opv_build rfl) rfl ?_
                refine L_v ((opv_eqlF rfl rfl (by simp [Shape, CK.sh]) (by simp [Shape, CK.sh])).bool_t rfl) rfl ?_
                refine L_v (opv_move rfl) rfl ?_
                refine L_gon rfl rfl rfl ?_
                refine L_v (opv_move rfl) rfl ?_
                refine L_gon rfl rfl rfl ?_
                refine L_v ((opv_eqlS rfl rfl).bool_t rfl) rfl ?_
                first
                  | refine L_v (opv_pick_tt rfl rfl) rfl ?_
                  | refine L_v (opv_pick_ff rfl rfl) rfl ?_
                  | refine L_v (opv_pick rfl rfl rfl) rfl ?_
                refine L_v (opv_move rfl) rfl ?_
                refine L_gon rfl rfl rfl ?_
                refine L_v (opv_move rfl) rfl ?_
                refine L_gon rfl rfl rfl ?_
                refine L_v ((opv_eql rfl rfl).bool_t rfl) rfl ?_
                first
                  | refine L_v (opv_pick_tt rfl rfl) rfl ?_
                  | refine L_v (opv_pick_ff rfl rfl) rfl ?_
                  | refine L_v (opv_pick rfl rfl rfl) rfl ?_
                refine L_v (opv_move rfl) rfl ?_
                refine L_gon rfl rfl rfl ?_
                refine L_x rfl (opx_call0 (uawake_spec) rfl rfl rfl) (fun _ _ => ?_)
                refine L_emp ?_
                first
                  | refine L_v (opv_pick_tt rfl rfl) rfl ?_
                  | refine L_v (opv_pick_ff rfl rfl) rfl ?_
                  | refine L_v (opv_pick rfl rfl rfl) rfl ?_
                refine L_v (opv_assign rfl) rfl ?_
                refine L_nil ?_
                refine K_then ?_
                refine J_ret ?_
                exact K_ret1 rfl rfl () trivial (rfl) Ent.take
          · refine L_gf_off h5 rfl rfl ?_ (fun _ h => by cases h; rfl)
            refine L_v (opv_pick_t rfl h5 rfl) rfl ?_
            refine L_nil ?_
            refine K_then ?_
            refine J_cond_true rfl ?_
            refine J_seq ?_
            refine J_region ?_
            refine L_x rfl (opx_call0 (uawake_spec) rfl rfl rfl) (fun _ _ => ?_)
            refine L_emp ?_
            refine L_v (opv_assign rfl) rfl ?_
            refine L_nil ?_
            refine K_then ?_
            refine J_ret ?_
            refine K_then_ret ?_
            exact K_ret1 rfl rfl () trivial (rfl) Ent.take
        · refine L_gf_off h4 rfl rfl ?_ (fun _ h => by cases h; rfl)
          refine L_v (opv_pick_t rfl h4 rfl) rfl ?_
          refine L_v (opv_move rfl) rfl ?_
          refine L_gskip rfl rfl rfl ?_ (fun _ h => by cases h; rfl)
          refine L_gskip rfl rfl rfl ?_ (fun _ h => by cases h; rfl)
          first
            | refine L_v (opv_pick_tt rfl rfl) rfl ?_
            | refine L_v (opv_pick_ff rfl rfl) rfl ?_
            | refine L_v (opv_pick rfl rfl rfl) rfl ?_
          refine L_nil ?_
          refine K_then ?_
          refine J_cond_true rfl ?_
          refine J_seq ?_
          refine J_region ?_
          refine L_x rfl (opx_call0 (uawake_spec) rfl rfl rfl) (fun _ _ => ?_)
          refine L_emp ?_
          refine L_v (opv_assign rfl) rfl ?_
          refine L_nil ?_
          refine K_then ?_
          refine J_ret ?_
          refine K_then_ret ?_
          exact K_ret1 rfl rfl () trivial (rfl) Ent.take
      · refine L_gf_off h3 rfl rfl ?_ (fun _ h => by cases h; rfl)
        refine L_v (opv_pick_t rfl h3 rfl) rfl ?_
        refine L_v (opv_move rfl) rfl ?_
        refine L_gskip rfl rfl rfl ?_ (fun _ h => by cases h; rfl)
        refine L_gskip rfl rfl rfl ?_ (fun _ h => by cases h; rfl)
        first
          | refine L_v (opv_pick_tt rfl rfl) rfl ?_
          | refine L_v (opv_pick_ff rfl rfl) rfl ?_
          | refine L_v (opv_pick rfl rfl rfl) rfl ?_
        refine L_v (opv_move rfl) rfl ?_
        refine L_gskip rfl rfl rfl ?_ (fun _ h => by cases h; rfl)
        refine L_gskip rfl rfl rfl ?_ (fun _ h => by cases h; rfl)
        first
          | refine L_v (opv_pick_tt rfl rfl) rfl ?_
          | refine L_v (opv_pick_ff rfl rfl) rfl ?_
          | refine L_v (opv_pick rfl rfl rfl) rfl ?_
        refine L_nil ?_
        refine K_then ?_
        refine J_cond_true rfl ?_
        refine J_seq ?_
        refine J_region ?_
        refine L_x rfl (opx_call0 (uawake_spec) rfl rfl rfl) (fun _ _ => ?_)
        refine L_emp ?_
        refine L_v (opv_assign rfl) rfl ?_
        refine L_nil ?_
        refine K_then ?_
        refine J_ret ?_
        refine K_then_ret ?_
        exact K_ret1 rfl rfl () trivial (rfl) Ent.take
    · refine L_gf_off h2 rfl rfl ?_ (fun _ h => by cases h; rfl)
      refine L_gf_off h2 rfl rfl ?_ (fun _ h => by cases h; rfl)
      refine L_gf_off h2 rfl rfl ?_ (fun _ h => by cases h; rfl)
      refine L_v (opv_pick_t rfl h2 rfl) rfl ?_
      refine L_v (opv_move rfl) rfl ?_
      refine L_gskip rfl rfl rfl ?_ (fun _ h => by cases h; rfl)
      refine L_gskip rfl rfl rfl ?_ (fun _ h => by cases h; rfl)
      first
        | refine L_v (opv_pick_tt rfl rfl) rfl ?_
        | refine L_v (opv_pick_ff rfl rfl) rfl ?_
        | refine L_v (opv_pick rfl rfl rfl) rfl ?_
      refine L_v (opv_move rfl) rfl ?_
      refine L_gskip rfl rfl rfl ?_ (fun _ h => by cases h; rfl)
      refine L_gskip rfl rfl rfl ?_ (fun _ h => by cases h; rfl)
      first
        | refine L_v (opv_pick_tt rfl rfl) rfl ?_
        | refine L_v (opv_pick_ff rfl rfl) rfl ?_
        | refine L_v (opv_pick rfl rfl rfl) rfl ?_
      refine L_v (opv_move rfl) rfl ?_
      refine L_gskip rfl rfl rfl ?_ (fun _ h => by cases h; rfl)
      refine L_gskip rfl rfl rfl ?_ (fun _ h => by cases h; rfl)
      first
        | refine L_v (opv_pick_tt rfl rfl) rfl ?_
        | refine L_v (opv_pick_ff rfl rfl) rfl ?_
        | refine L_v (opv_pick rfl rfl rfl) rfl ?_
      refine L_nil ?_
      refine K_then ?_
      refine J_cond_true rfl ?_
      refine J_seq ?_
      refine J_region ?_
      refine L_x rfl (opx_call0 (uawake_spec) rfl rfl rfl) (fun _ _ => ?_)
      refine L_emp ?_
      refine L_v (opv_assign rfl) rfl ?_
      refine L_nil ?_
      refine K_then ?_
      refine J_ret ?_
      refine K_then_ret ?_
      exact K_ret1 rfl rfl () trivial (rfl) Ent.take
  · refine L_gf_off h1 rfl rfl ?_ (fun _ h => by cases h; rfl)
    refine L_v (opv_pick_t rfl h1 rfl) rfl ?_
    refine L_v (opv_move rfl) rfl ?_
    refine L_gskip rfl rfl rfl ?_ (fun _ h => by cases h; rfl)
    refine L_gskip rfl rfl rfl ?_ (fun _ h => by cases h; rfl)
    refine L_gskip rfl rfl rfl ?_ (fun _ h => by cases h; rfl)
    refine L_gskip rfl rfl rfl ?_ (fun _ h => by cases h; rfl)
    first
      | refine L_v (opv_pick_tt rfl rfl) rfl ?_
      | refine L_v (opv_pick_ff rfl rfl) rfl ?_
      | refine L_v (opv_pick rfl rfl rfl) rfl ?_
    refine L_v (opv_move rfl) rfl ?_
    refine L_gskip rfl rfl rfl ?_ (fun _ h => by cases h; rfl)
    refine L_gskip rfl rfl rfl ?_ (fun _ h => by cases h; rfl)
    first
      | refine L_v (opv_pick_tt rfl rfl) rfl ?_
      | refine L_v (opv_pick_ff rfl rfl) rfl ?_
      | refine L_v (opv_pick rfl rfl rfl) rfl ?_
    refine L_v (opv_move rfl) rfl ?_
    refine L_gskip rfl rfl rfl ?_ (fun _ h => by cases h; rfl)
    refine L_gskip rfl rfl rfl ?_ (fun _ h => by cases h; rfl)
    first
      | refine L_v (opv_pick_tt rfl rfl) rfl ?_
      | refine L_v (opv_pick_ff rfl rfl) rfl ?_
      | refine L_v (opv_pick rfl rfl rfl) rfl ?_
    refine L_v (opv_move rfl) rfl ?_
    refine L_gskip rfl rfl rfl ?_ (fun _ h => by cases h; rfl)
    refine L_gskip rfl rfl rfl ?_ (fun _ h => by cases h; rfl)
    first
      | refine L_v (opv_pick_tt rfl rfl) rfl ?_
      | refine L_v (opv_pick_ff rfl rfl) rfl ?_
      | refine L_v (opv_pick rfl rfl rfl) rfl ?_
    refine L_nil ?_
    refine K_then ?_
    refine J_cond_true rfl ?_
    refine J_seq ?_
    refine J_region ?_
    refine L_x rfl (opx_call0 (uawake_spec) rfl rfl rfl) (fun _ _ => ?_)
    refine L_emp ?_
    refine L_v (opv_assign rfl) rfl ?_
    refine L_nil ?_
    refine K_then ?_
    refine J_ret ?_
    refine K_then_ret ?_
    exact K_ret1 rfl rfl () trivial (rfl) Ent.take

structure K2 where
  k : Int
  u : Int
def encK2 (x : K2) : List Value := [.int .i64 x.k, .int .i64 x.u]
def okK2 (x : K2) : Prop := (Lit.int .i64 x.k).wf = true ∧ (Lit.int .i64 x.u).wf = true
abbrev ksK2 : List CK := [.int .i64, .int .i64]
theorem encK2_len (x : K2) : (encK2 x).length = 2 := rfl
theorem decK2 (cs : List Value) (h : Kinds ksK2 cs) : ∃ x, cs = encK2 x ∧ okK2 x := by
  obtain ⟨hl, hk⟩ := h
  obtain ⟨v0, g0, x0, rfl, w0⟩ := hk 0 _ rfl
  obtain ⟨v1, g1, x1, rfl, w1⟩ := hk 1 _ rfl
  match cs, hl with
  | [c0, c1], _ =>
    simp only [List.getElem?_cons_zero, List.getElem?_cons_succ, Option.some.injEq] at g0 g1
    exact ⟨⟨x0, x1⟩, by simp only [encK2, *], ⟨w0, w1⟩⟩

theorem UdpTold_law (W : World) (x : En) (t : ByteArray) (y : K2) (hx : okEn x) : FSpec Try.prog 10 #[.agg (encEn x).toArray, .string t, .agg (encK2 y).toArray] (old W) (fun _ : Unit => True) (fun _ => .bool true) (fun _ => old W) := by
  by_cases h : 2000 < t.size
  · exact UT_big W x t y.k y.u h
  · exact UT_ok W x t y.k y.u hx (by omega)

end Go.Proofs.Ytdmlcnecildliaa
namespace Go.Proofs.Ytdmlcnecildliaa.udpTold
open Go.ChangeShapes Go.WideShapes Go.ChangeAt Go.RowKit Go.SLA
open Go.ChangeMaps (open_string shut_string)
set_option linter.unusedVariables false
theorem own : ownKnob Try.prog.godebug = none := by kernel_rfl
theorem laidOut : laidOutB Try.prog = true := by kernel_rfl
set_option maxRecDepth 100000 in
theorem lifted (os : Os) (started : os.Started) (H : Type) (enc : TypeId × Value → H) :
    ReturnsInHanded {} Try.checked os 10 .any (Rows.udpToldSpec.pre6 enc Try.prog Try.f10 Rows.udpToldRow.domain false) (Rows.udpToldSpec.post enc Try.prog Try.f10 false true false false) := by
  refine returnsInHanded_of_change_sized (C := Try.checked) own started (by kernel_rfl) Try.func10
    (ChangeSpec.witness6 (enc := enc) (C := Try.checked) false ⟨#[], #[.agg (encEn en0).toArray, .string ByteArray.empty, .agg #[.int .i64 0, .int .i64 0]], []⟩ 8 (by kernel_rfl) (by kernel_rfl) (by kernel_rfl) (by kernel_rfl)) ?_
  intro W base args ds gs before hval0 hW hcnd hsz0 _
  have hsz : (DataW.weightsEach Try.prog (Try.f10.params.toList ++ Rows.udpToldSpec.plain.varTypes Try.prog) (ds ++ gs)).all (· ≤ reachBytes) = true := hsz0
  have hval : ∀ (j : Nat) t v, Try.f10.params[j]? = some t → args[j]? = some v → Value.okWide Try.prog W .any base t v := hval0
  have hW' := hW
  obtain ⟨p, q, hA0, hV, rfl, hfz, hnd⟩ := hW
  have hA : DataW.TrodAll enc Try.prog W 0 (fun _ => true) true Try.f10.params.toList args.toList ds p := hA0
  rw [Try.params10] at hA hval hsz
  obtain ⟨v0, vs0, d0, ds0, p0, q0, hargs, rfl, rfl, h0, r0⟩ := trodAll_cons hA
  obtain ⟨v1, vs1, d1, ds1, p1, q1, rfl, rfl, rfl, h1, r1⟩ := trodAll_cons r0
  obtain ⟨v2, vs2, d2, ds2, p2, q2, rfl, rfl, rfl, h2, r2⟩ := trodAll_cons r1
  obtain ⟨rfl, rfl, rfl⟩ := trodAll_nil r2
  obtain rfl : args = #[v0, v1, v2] := by cases args; simp_all
  obtain ⟨rfl, rfl⟩ := trodVars_none hV
  have k0 := h0
  have lt0 : ∀ x ∈ p0, x.block < W.heap.size := by obtain ⟨m, hm⟩ := k0; exact DataW.trod_lt m _ _ _ hm
  obtain ⟨l0, rfl, g0⟩ := open_flat (D := 5) (ks := ksEn) (by kernel_rfl) (by kernel_rfl) (hval 0 29 v0 rfl rfl) h0
  obtain ⟨x0, rfl, ok0⟩ := decEn l0 g0
  have k1 := h1
  have lt1 : ∀ x ∈ p1, x.block < W.heap.size := by obtain ⟨m, hm⟩ := k1; exact DataW.trod_lt m _ _ _ hm
  obtain ⟨a1, rfl, rfl, rfl, y1⟩ := open_string Try.underlying9 (hval 1 9 v1 rfl rfl) h1
  have z1 := sized_string hsz (j := 1) (t := 9) rfl rfl
  rw [Array.length_toList] at z1
  have k2 := h2
  have lt2 : ∀ x ∈ p2, x.block < W.heap.size := by obtain ⟨m, hm⟩ := k2; exact DataW.trod_lt m _ _ _ hm
  obtain ⟨l2, rfl, g2⟩ := open_flat (D := 5) (ks := ksK2) (by kernel_rfl) (by kernel_rfl) (hval 2 66 v2 rfl rfl) h2
  obtain ⟨x2, rfl, ok2⟩ := decK2 l2 g2
  clear hA0 hval0 hsz0 hsz
  refine (FSpec.law (UdpTold_law W x0 a1 x2 ok0)).mono fun e W' ⟨he, bel⟩ => ?_
  subst he
  exact ⟨_, rfl, _, _, _, [], _, [], hW', trodAll_mk1 (shut_bool Try.underlying4 _), (trodAll_cons_mk (Below.trod laidOut (by kernel_rfl) (of_decide_eq_true (by kernel_rfl)) k0 bel lt0) (trodAll_cons_mk (Below.trod laidOut (by kernel_rfl) (of_decide_eq_true (by kernel_rfl)) k1 bel lt1) (trodAll_cons_mk (Below.trod laidOut (by kernel_rfl) (of_decide_eq_true (by kernel_rfl)) k2 bel lt2) trodAll_mk0))), rfl, bel.frame _, fun h => by cases h⟩
theorem over : Rows.udpToldRow.holds Try.pinned (OpenSpec.ofChange Rows.udpToldSpec) :=
  OpenClaim.holds_of_wide 10 Try.f10 rfl rfl rfl rfl rfl rfl rfl ⟨rfl, rfl, rfl, rfl, rfl⟩ rfl rfl rfl rfl rfl (by kernel_rfl) Try.func10 (by kernel_rfl)
    (of_decide_eq_true (by kernel_rfl)) (by unfold Func.isWrapper; first | (rw [if_pos (by decide +kernel)]; kernel_rfl) | (rw [if_neg (by decide +kernel)]; exact ⟨rfl, rfl⟩))
    (fun os started H enc _ => lifted os started H enc)
end Go.Proofs.Ytdmlcnecildliaa.udpTold
namespace Go.Proofs.Ytdmlcnecildliaa
theorem udpTold_holds : Rows.UdpToldSaid := udpTold.over
#print axioms udpTold_holds
end Go.Proofs.Ytdmlcnecildliaa
namespace Go.Proofs.Ytdmlcnecildliaa
open Go.SLA
end Go.Proofs.Ytdmlcnecildliaa
