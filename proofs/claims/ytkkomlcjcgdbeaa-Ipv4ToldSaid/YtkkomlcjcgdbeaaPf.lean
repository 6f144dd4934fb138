/- The law Ipv4Told of the package pitotlaw05 holds for every input: a packet of which one byte of the first twenty is another one is not taken for one. No condition. -/
import Derived.Test.YtkkomlcjcgdbeaaPe
import Derived.Test.YtkkomlcjcgdbeaaTa
import Derived.Test.YtkkomlcjcgdbeaaH
namespace Go.Proofs.Ytkkomlcjcgdbeaa
open Go.SLA
set_option maxRecDepth 100000
set_option linter.unusedVariables false
set_option linter.unusedSimpArgs false
attribute [local irreducible] J L K QL Rg FSpec OpV OpX Rd Back
attribute [local irreducible] be ones word zeroed pkt hA hB encP decP bn

theorem zeroed_bn2 {s : ByteArray} (h : 20 ≤ s.size) (i : Nat) : bn (zeroed s) i = if i < 10 then bn s i else if i < 10 + 2 then 0 else if i < 20 then bn s i else 0 := by
  unfold zeroed
  exact bn_gap (m := 10) (by omega) h i
theorem told_decP {p : Pk} (hp : okPk p) (h : fieldsB p) (hd : p.data.size ≤ 65515) {k u : Nat} (hk : k < 20) (hu : u < 256) (hn : u ≠ bn (pkt p) k) : (decP (setB (pkt p) k u)).2 ≠ 0 := by
  intro hz
  have hs := pkt_size p
  have hs' := setB_size (pkt p) k u
  have hkz : k < (pkt p).size := by omega
  obtain ⟨_, _, _, _, _, _, g1, _⟩ := decP_good hz
  have hg : (decP (pkt p)).2 = 0 := by
    have := decP_pkt hp h hd ByteArray.empty
    rw [ByteArray.append_empty] at this
    rw [this]
  obtain ⟨_, _, _, _, _, _, g2, _⟩ := decP_good hg
  have hzs := zeroed_size (s := setB (pkt p) k u) (by omega)
  have hzs2 := zeroed_size (s := pkt p) (by omega)
  by_cases c : k = 10 ∨ k = 10 + 1
  · have e : zeroed (setB (pkt p) k u) = zeroed (pkt p) := by
      refine bn_ext (by omega) fun i hi => ?_
      rw [zeroed_bn2 (by omega), zeroed_bn2 (by omega)]
      (repeat' split) <;> first | rfl | (rw [bn_setB hkz hu, if_neg (by omega)])
    rw [e, ← g2] at g1
    exact word_setB_ne hkz hu c hn g1
  · rw [word_setB hkz hu (by omega) (by omega), g2] at g1
    have hc : ∀ i, i < 20 → bn (zeroed (setB (pkt p) k u)) i = if i = k then u else bn (zeroed (pkt p)) i := fun i hi => by
      rw [zeroed_bn2 (by omega), zeroed_bn2 (by omega), bn_setB hkz hu]
      by_cases e : i = k
      · subst e
        rw [if_pos rfl, if_pos rfl]
        split
        · rfl
        · first | rfl | (rw [if_neg (by omega), if_pos (by omega)]) | (rw [if_neg (by omega)])
      · rw [if_neg e, if_neg e]
    refine ones_ne (s := zeroed (pkt p)) (r := zeroed (setB (pkt p) k u)) (hzs2.trans hzs.symm) (a := k) (by rw [hzs2]; exact hk) ?_ (fun i hi hik => by rw [hc i (by rw [hzs2] at hi; exact hi), if_neg hik]) (congrArg (· % 65535) g1)
    rw [hc k hk, if_pos rfl, zeroed_bn2 (by omega)]
    intro e
    refine hn (e.symm.trans ?_)
    split
    · rfl
    · first | rfl | (rw [if_neg (by omega), if_pos (by omega)]) | (rw [if_neg (by omega)])
theorem D_told (p : Pk) (hp : okPk p) (h : fieldsB p) (hd : p.data.size ≤ 65515) {k u : Nat} (hk : k < 20) (hu : u < 256) (hn : u ≠ bn (pkt p) k) : FSpec Try.prog 26 #[.string (setB (pkt p) k u)] emp (fun _ : Unit => True) (fun _ => .tuple #[.agg [.int .i64 0, .bool false, .int .i64 0, .int .i64 0, .int .i64 0, .int .u8 0, .int .u8 0, .int .u8 0, .int .u8 0, .int .u8 0, .int .u8 0, .int .u8 0, .int .u8 0, .string ⟨#[]⟩].toArray, .int .i64 (decP (setB (pkt p) k u)).2]) (fun _ => emp) := by
  have hs := pkt_size p
  have hs' := setB_size (pkt p) k u
  exact D_bad _ (by omega) (told_decP hp h hd hk hu hn)

theorem PT_big (W : World) (p : Pk) (k u : Int) (h : 5000 < p.data.size) : FSpec Try.prog 12 #[.agg [.int .i64 p.id, .bool p.more, .int .i64 p.off, .int .i64 p.ttl, .int .i64 p.proto, .int .u8 p.s0, .int .u8 p.s1, .int .u8 p.s2, .int .u8 p.s3, .int .u8 p.d0, .int .u8 p.d1, .int .u8 p.d2, .int .u8 p.d3, .string p.data].toArray, .int .i64 k, .int .u8 u] (old W) (fun _ : Unit => True) (fun _ => .bool true) (fun _ => old W) := by
  refine FSpec.enter' Try.func12 rfl Try.ntmps12 rfl fun σ F => ?_
  refine J_seq ?_
  refine J_region ?_
  refine L_x rfl (opx_box (l := [.int .i64 p.id, .bool p.more, .int .i64 p.off, .int .i64 p.ttl, .int .i64 p.proto, .int .u8 p.s0, .int .u8 p.s1, .int .u8 p.s2, .int .u8 p.s3, .int .u8 p.d0, .int .u8 p.d1, .int .u8 p.d2, .int .u8 p.d3, .string p.data]) rfl rfl) (fun b3 _ => ?_)
  refine L_v (opv_assign rfl) rfl ?_
  refine L_nil ?_
  refine K_then ?_
  refine J_seq ?_
  refine J_seq ?_
  refine J_region ?_
  first
    | refine L_v (opv_fieldAddr0 rfl) rfl ?_
    | refine L_v (opv_fieldAddr rfl) rfl ?_
  refine L_v (opv_load rfl (Rd.look rfl)) rfl ?_
  first
    | refine L_v (opv_lenL rfl) rfl ?_
    | refine L_v (opv_lenS rfl) rfl ?_
  refine L_v ((opv_gtr rfl rfl).bool_t (by omega)) rfl ?_
  refine L_nil ?_
  refine K_then ?_
  refine J_cond_true rfl ?_
  refine J_seq ?_
  refine J_region ?_
  refine L_x rfl (opx_call0 (pawake_spec) rfl rfl rfl) (fun _ _ => ?_)
  refine L_emp ?_
  refine L_v (opv_assign rfl) rfl ?_
  refine L_nil ?_
  refine K_then ?_
  refine J_ret ?_
  refine K_then_ret ?_
  exact K_ret1 rfl rfl () trivial (rfl) Ent.take

theorem PT_ok (W : World) (p : Pk) (k : Int) (u : Nat) (hp : okPk p) (hu : u < 256) (h : p.data.size ≤ 5000) : FSpec Try.prog 12 #[.agg [.int .i64 p.id, .bool p.more, .int .i64 p.off, .int .i64 p.ttl, .int .i64 p.proto, .int .u8 p.s0, .int .u8 p.s1, .int .u8 p.s2, .int .u8 p.s3, .int .u8 p.d0, .int .u8 p.d1, .int .u8 p.d2, .int .u8 p.d3, .string p.data].toArray, .int .i64 k, .int .u8 (u : Int)] (old W) (fun _ : Unit => True) (fun _ => .bool true) (fun _ => old W) := by
  refine FSpec.enter' Try.func12 rfl Try.ntmps12 rfl fun σ F => ?_
  refine J_seq ?_
  refine J_region ?_
  refine L_x rfl (opx_box (l := [.int .i64 p.id, .bool p.more, .int .i64 p.off, .int .i64 p.ttl, .int .i64 p.proto, .int .u8 p.s0, .int .u8 p.s1, .int .u8 p.s2, .int .u8 p.s3, .int .u8 p.d0, .int .u8 p.d1, .int .u8 p.d2, .int .u8 p.d3, .string p.data]) rfl rfl) (fun b3 _ => ?_)
  refine L_v (opv_assign rfl) rfl ?_
  refine L_nil ?_
  refine K_then ?_
  refine J_seq ?_
  refine J_seq ?_
  refine J_region ?_
  first
    | refine L_v (opv_fieldAddr0 rfl) rfl ?_
    | refine L_v (opv_fieldAddr rfl) rfl ?_
  refine L_v (opv_load rfl (Rd.look rfl)) rfl ?_
  first
    | refine L_v (opv_lenL rfl) rfl ?_
    | refine L_v (opv_lenS rfl) rfl ?_
  refine L_v ((opv_gtr rfl rfl).bool_f (by omega)) rfl ?_
  refine L_nil ?_
  refine K_then ?_
  refine J_cond_false rfl ?_
  refine J_skip ?_
  refine K_then ?_
  refine J_seq ?_
  refine J_region ?_
  refine L_v (opv_loadS rfl) rfl ?_
  refine L_x rfl (opx_call0 (Ip4Encode_any p hp (by omega)) rfl rfl rfl) (fun _ _ => ?_)
  refine L_emp ?_
  refine L_v (opv_move rfl) rfl ?_
  refine L_v (opv_extract rfl rfl) rfl ?_
  refine L_v (opv_extract rfl rfl) rfl ?_
  refine L_v (opv_assign rfl) rfl ?_
  refine L_v (opv_assign rfl) rfl ?_
  refine L_nil ?_
  refine K_then ?_
  refine J_seq ?_
  refine J_seq ?_
  refine J_region ?_
  refine L_v (opv_move rfl) rfl ?_
  first
    | refine L_v (opv_neq rfl rfl) rfl ?_
    | refine L_v (opv_neqS rfl rfl) rfl ?_
    | refine L_v (opv_neqNil rfl rfl) rfl ?_
    | refine L_v (opv_neqB rfl rfl) rfl ?_
  refine L_v (opv_move rfl) rfl ?_
  refine L_gf rfl rfl (fun h1 => ?_) (fun h1 => ?_) (fun _ h => by cases h; rfl)
  · refine L_v (opv_move rfl) rfl ?_
    refine L_gf_on h1 rfl rfl ?_
    refine L_v (opv_lss rfl rfl) rfl ?_
    refine L_v (opv_pick_f rfl h1 rfl) rfl ?_
    refine L_v (opv_move rfl) rfl ?_
    refine L_gf rfl rfl (fun h2 => ?_) (fun h2 => ?_) (fun _ h => by cases h; rfl)
    · refine L_v (opv_move rfl) rfl ?_
      refine L_gf_on h2 rfl rfl ?_
      refine L_v (opv_geq rfl rfl) rfl ?_
      refine L_v (opv_pick_f rfl h2 rfl) rfl ?_
      refine L_v (opv_move rfl) rfl ?_
      refine L_gf rfl rfl (fun h3 => ?_) (fun h3 => ?_) (fun _ h => by cases h; rfl)
      · refine L_v (opv_move rfl) rfl ?_
        refine L_gf_on h3 rfl rfl ?_
        first
          | refine L_v (opv_eql rfl rfl) rfl ?_
          | refine L_v (opv_eqlS rfl rfl) rfl ?_
          | refine L_v (opv_eqlNil rfl rfl) rfl ?_
          | refine L_v (opv_eqlB rfl rfl) rfl ?_
        refine L_v (opv_pick_f rfl h3 rfl) rfl ?_
        refine L_nil ?_
        refine K_then ?_
        refine J_cond rfl (fun h4 => ?_) (fun h4 => ?_)
        · refine J_seq ?_
          refine J_region ?_
          refine L_x rfl (opx_call0 (pawake_spec) rfl rfl rfl) (fun _ _ => ?_)
          refine L_emp ?_
          refine L_v (opv_assign rfl) rfl ?_
          refine L_nil ?_
          refine K_then ?_
          refine J_ret ?_
          refine K_then_ret ?_
          exact K_ret1 rfl rfl () trivial (rfl) Ent.take
        · refine J_skip ?_
          refine K_then ?_
          refine J_seq ?_
          refine J_seq ?_
          obtain ⟨hn, hl, he⟩ := encP_ok (p := p) (by assumption)
          have hds := pkt_size p
          rw [he]
          dsimp only
          refine J_region ?_
          refine L_v (opv_move rfl) rfl ?_
          first
            | refine L_v (opv_lenL rfl) rfl ?_
            | refine L_v (opv_lenS rfl) rfl ?_
          refine L_v ((opv_lss rfl rfl).bool_f (by omega)) rfl ?_
          refine L_nil ?_
          refine K_then ?_
          refine J_cond_false rfl ?_
          refine J_skip ?_
          refine K_then ?_
          refine J_seq ?_
          refine J_region ?_
          refine L_v (opv_move rfl) rfl ?_
          refine L_x rfl (opx_s2b rfl rfl) (fun y41 _ => ?_)
          refine L_v (opv_assign rfl) rfl ?_
          refine L_nil ?_
          refine K_then ?_
          refine J_seq ?_
          refine J_region ?_
          refine L_v (opv_move rfl) rfl ?_
          refine L_v (opv_move rfl) rfl ?_
          refine L_v (opv_move rfl) rfl ?_
          refine L_v (opv_move rfl) rfl ?_
          refine L_v ((opv_indexAddr rfl rfl (by omega)).as (v' := .pointer (some (ad y41.1 k.toNat))) (by rw [Nat.zero_add, Nat.mul_one] <;> rfl)) rfl ?_
          refine L_v ((opv_load rfl (Rd.byb (s := pkt p) (c := y41.2) (e := 5) (by omega))).as (v' := .int .u8 ((bn (pkt p) k.toNat : Nat) : Int)) (congrArg (Value.int .u8) (byt_bn _ _))) rfl ?_
          refine L_v (opv_move rfl) rfl ?_
          refine L_v (opv_xor8 rfl rfl (bn_lt _ _) hu) rfl ?_
          refine L_v ((opv_indexAddr rfl rfl (by omega)).as (v' := .pointer (some (ad y41.1 k.toNat))) (by rw [Nat.zero_add, Nat.mul_one] <;> rfl)) rfl ?_
          refine L_x rfl (opx_storeB (te := 5) (s := pkt p) (c := y41.2) rfl rfl (by omega) (xor8_lt (bn_lt _ _) hu)) (fun _ _ => ?_)
          refine L_nil ?_
          refine K_then ?_
          refine J_seq ?_
          refine J_region ?_
          refine L_v (opv_move rfl) rfl ?_
          refine L_v ((opv_b2s (s := (setB (pkt p) k.toNat (bn (pkt p) k.toNat ^^^ u))) rfl (Src.bybL (e := 5) (setB_size _ _ _)))) rfl ?_
          refine L_x rfl (opx_call0 (D_told p hp hn hl (k := k.toNat) (by omega) (xor8_lt (bn_lt _ _) hu) (xor_ne (by omega))) rfl rfl rfl) (fun _ _ => ?_)
          refine L_emp ?_
          refine L_v (opv_move rfl) rfl ?_
          refine L_v (opv_extract (v := .agg [.int .i64 0, .bool false, .int .i64 0, .int .i64 0, .int .i64 0, .int .u8 0, .int .u8 0, .int .u8 0, .int .u8 0, .int .u8 0, .int .u8 0, .int .u8 0, .int .u8 0, .string ⟨#[]⟩].toArray) rfl rfl) rfl ?_
          refine L_v (opv_extract rfl rfl) rfl ?_
          refine L_x rfl (opx_alloc rfl) (fun b10 _ => ?_)
          refine L_x rfl (opx_store rfl rfl rfl (by simp [Value.oneCell'])) (fun _ _ => ?_)
          refine L_v (opv_assign rfl) rfl ?_
          refine L_nil ?_
          refine K_then ?_
          refine J_seq ?_
          refine J_region ?_
          refine L_v (opv_loadS rfl) rfl ?_
          refine L_v (opv_build rfl) rfl ?_
          refine L_v ((opv_eqlF rfl rfl (by simp [Shape, CK.sh]) (by simp [Shape, CK.sh])).bool_t rfl) rfl ?_
          refine L_v (opv_move rfl) rfl ?_
          refine L_gon rfl rfl rfl ?_
          refine L_v (opv_move rfl) rfl ?_
          refine L_gon rfl rfl rfl ?_
          refine L_v ((opv_neq rfl rfl).bool_t (told_decP hp hn hl (k := k.toNat) (by omega) (xor8_lt (bn_lt _ _) hu) (xor_ne (by omega)))) rfl ?_
          first
            | refine L_v (opv_pick_tt rfl rfl) rfl ?_
            | refine L_v (opv_pick_ff rfl rfl) rfl ?_
            | refine L_v (opv_pick rfl rfl rfl) rfl ?_
          refine L_v (opv_move rfl) rfl ?_
          refine L_gon rfl rfl rfl ?_
          refine L_x rfl (opx_call0 (pawake_spec) rfl rfl rfl) (fun _ _ => ?_)
          refine L_emp ?_
          first
            | refine L_v (opv_pick_tt rfl rfl) rfl ?_
            | refine L_v (opv_pick_ff rfl rfl) rfl ?_
            | refine L_v (opv_pick rfl rfl rfl) rfl ?_
          refine L_v (opv_assign rfl) rfl ?_
          refine L_nil ?_
          refine K_then ?_
          refine J_ret ?_
          exact K_ret1 rfl rfl () trivial (rfl) Ent.take
      · refine L_gf_off h3 rfl rfl ?_ (fun _ h => by cases h; rfl)
        refine L_v (opv_pick_t rfl h3 rfl) rfl ?_
        refine L_nil ?_
        refine K_then ?_
        refine J_cond_true rfl ?_
        refine J_seq ?_
        refine J_region ?_
        refine L_x rfl (opx_call0 (pawake_spec) rfl rfl rfl) (fun _ _ => ?_)
        refine L_emp ?_
        refine L_v (opv_assign rfl) rfl ?_
        refine L_nil ?_
        refine K_then ?_
        refine J_ret ?_
        refine K_then_ret ?_
        exact K_ret1 rfl rfl () trivial (rfl) Ent.take
    · refine L_gf_off h2 rfl rfl ?_ (fun _ h => by cases h; rfl)
      refine L_v (opv_pick_t rfl h2 rfl) rfl ?_
      refine L_v (opv_move rfl) rfl ?_
      refine L_gskip rfl rfl rfl ?_ (fun _ h => by cases h; rfl)
      refine L_gskip rfl rfl rfl ?_ (fun _ h => by cases h; rfl)
      first
        | refine L_v (opv_pick_tt rfl rfl) rfl ?_
        | refine L_v (opv_pick_ff rfl rfl) rfl ?_
        | refine L_v (opv_pick rfl rfl rfl) rfl ?_
      refine L_nil ?_
      refine K_then ?_
      refine J_cond_true rfl ?_
      refine J_seq ?_
      refine J_region ?_
      refine L_x rfl (opx_call0 (pawake_spec) rfl rfl rfl) (fun _ _ => ?_)
      refine L_emp ?_
      refine L_v (opv_assign rfl) rfl ?_
      refine L_nil ?_
      refine K_then ?_
      refine J_ret ?_
      refine K_then_ret ?_
      exact K_ret1 rfl rfl () trivial (rfl) Ent.take
  · refine L_gf_off h1 rfl rfl ?_ (fun _ h => by cases h; rfl)
    refine L_v (opv_pick_t rfl h1 rfl) rfl ?_
    refine L_v (opv_move rfl) rfl ?_
    refine L_gskip rfl rfl rfl ?_ (fun _ h => by cases h; rfl)
    refine L_gskip rfl rfl rfl ?_ (fun _ h => by cases h; rfl)
    first
      | refine L_v (opv_pick_tt rfl rfl) rfl ?_
      | refine L_v (opv_pick_ff rfl rfl) rfl ?_
      | refine L_v (opv_pick rfl rfl rfl) rfl ?_
    refine L_v (opv_move rfl) rfl ?_
    refine L_gskip rfl rfl rfl ?_ (fun _ h => by cases h; rfl)
    refine L_gskip rfl rfl rfl ?_ (fun _ h => by cases h; rfl)
    first
      | refine L_v (opv_pick_tt rfl rfl) rfl ?_
      | refine L_v (opv_pick_ff rfl rfl) rfl ?_
      | refine L_v (opv_pick rfl rfl rfl) rfl ?_
    refine L_nil ?_
    refine K_then ?_
    refine J_cond_true rfl ?_
    refine J_seq ?_
    refine J_region ?_
    refine L_x rfl (opx_call0 (pawake_spec) rfl rfl rfl) (fun _ _ => ?_)
    refine L_emp ?_
    refine L_v (opv_assign rfl) rfl ?_
    refine L_nil ?_
    refine K_then ?_
    refine J_ret ?_
    refine K_then_ret ?_
    exact K_ret1 rfl rfl () trivial (rfl) Ent.take

theorem Ipv4Told_law (W : World) (p : Pk) (k u : Int) (hp : okPk p) (hu : 0 ≤ u ∧ u < 256) : FSpec Try.prog 12 #[.agg (encPk p).toArray, .int .i64 k, .int .u8 u] (old W) (fun _ : Unit => True) (fun _ => .bool true) (fun _ => old W) := by
  by_cases h : 5000 < p.data.size
  · exact PT_big W p k u h
  · obtain ⟨n, rfl⟩ := Int.eq_ofNat_of_zero_le hu.1
    exact PT_ok W p k n hp (by omega) (by omega)

theorem wfu8 {a : Int} (h : (Lit.int .u8 a).wf = true) : 0 ≤ a ∧ a < 256 := by
  have : 0 ≤ a ∧ a ≤ 255 := by simpa [Lit.wf, IntKind.min, IntKind.max, IntKind.signed, IntKind.bits] using h
  omega

end Go.Proofs.Ytkkomlcjcgdbeaa
namespace Go.Proofs.Ytkkomlcjcgdbeaa.ipv4Told
open Go.ChangeShapes Go.WideShapes Go.ChangeAt Go.RowKit Go.SLA
open Go.ChangeMaps (open_string shut_string)
set_option linter.unusedVariables false
theorem own : ownKnob Try.prog.godebug = none := by kernel_rfl
theorem laidOut : laidOutB Try.prog = true := by kernel_rfl
set_option maxRecDepth 100000 in
theorem lifted (os : Os) (started : os.Started) (H : Type) (enc : TypeId × Value → H) :
    ReturnsInHanded {} Try.checked os 12 .any (Rows.ipv4ToldSpec.pre6 enc Try.prog Try.f12 Rows.ipv4ToldRow.domain false) (Rows.ipv4ToldSpec.post enc Try.prog Try.f12 false true false false) := by
  refine returnsInHanded_of_change_sized (C := Try.checked) own started (by kernel_rfl) Try.func12
    (ChangeSpec.witness6 (enc := enc) (C := Try.checked) false ⟨#[], #[.agg (encPk pkz).toArray, .int .i64 0, .int .u8 0], []⟩ 8 (by kernel_rfl) (by kernel_rfl) (by kernel_rfl) (by kernel_rfl)) ?_
  intro W base args ds gs before hval0 hW hcnd hsz0 _
  have hsz : (DataW.weightsEach Try.prog (Try.f12.params.toList ++ Rows.ipv4ToldSpec.plain.varTypes Try.prog) (ds ++ gs)).all (· ≤ reachBytes) = true := hsz0
  have hval : ∀ (j : Nat) t v, Try.f12.params[j]? = some t → args[j]? = some v → Value.okWide Try.prog W .any base t v := hval0
  have hW' := hW
  obtain ⟨p, q, hA0, hV, rfl, hfz, hnd⟩ := hW
  have hA : DataW.TrodAll enc Try.prog W 0 (fun _ => true) true Try.f12.params.toList args.toList ds p := hA0
  rw [Try.params12] at hA hval hsz
  obtain ⟨v0, vs0, d0, ds0, p0, q0, hargs, rfl, rfl, h0, r0⟩ := trodAll_cons hA
  obtain ⟨v1, vs1, d1, ds1, p1, q1, rfl, rfl, rfl, h1, r1⟩ := trodAll_cons r0
  obtain ⟨v2, vs2, d2, ds2, p2, q2, rfl, rfl, rfl, h2, r2⟩ := trodAll_cons r1
  obtain ⟨rfl, rfl, rfl⟩ := trodAll_nil r2
  obtain rfl : args = #[v0, v1, v2] := by cases args; simp_all
  obtain ⟨rfl, rfl⟩ := trodVars_none hV
  have k0 := h0
  have lt0 : ∀ x ∈ p0, x.block < W.heap.size := by obtain ⟨m, hm⟩ := k0; exact DataW.trod_lt m _ _ _ hm
  obtain ⟨l0, rfl, g0⟩ := open_flat (D := 5) (ks := ksPk) (by kernel_rfl) (by kernel_rfl) (hval 0 41 v0 rfl rfl) h0
  obtain ⟨x0, rfl, ok0⟩ := decPk l0 g0
  have k1 := h1
  have lt1 : ∀ x ∈ p1, x.block < W.heap.size := by obtain ⟨m, hm⟩ := k1; exact DataW.trod_lt m _ _ _ hm
  obtain ⟨a1, rfl, rfl, rfl, w1⟩ := open_int Try.underlying3 (hval 1 3 v1 rfl rfl) h1
  have k2 := h2
  have lt2 : ∀ x ∈ p2, x.block < W.heap.size := by obtain ⟨m, hm⟩ := k2; exact DataW.trod_lt m _ _ _ hm
  obtain ⟨a2, rfl, rfl, rfl, w2⟩ := open_int Try.underlying5 (hval 2 5 v2 rfl rfl) h2
  clear hA0 hval0 hsz0 hsz
  refine (FSpec.law (Ipv4Told_law W x0 a1 a2 ok0 (wfu8 w2))).mono fun e W' ⟨he, bel⟩ => ?_
  subst he
  exact ⟨_, rfl, _, _, _, [], _, [], hW', trodAll_mk1 (shut_bool Try.underlying4 _), (trodAll_cons_mk (Below.trod laidOut (by kernel_rfl) (of_decide_eq_true (by kernel_rfl)) k0 bel lt0) (trodAll_cons_mk (Below.trod laidOut (by kernel_rfl) (of_decide_eq_true (by kernel_rfl)) k1 bel lt1) (trodAll_cons_mk (Below.trod laidOut (by kernel_rfl) (of_decide_eq_true (by kernel_rfl)) k2 bel lt2) trodAll_mk0))), rfl, bel.frame _, fun h => by cases h⟩
theorem over : Rows.ipv4ToldRow.holds Try.pinned (OpenSpec.ofChange Rows.ipv4ToldSpec) :=
  OpenClaim.holds_of_wide 12 Try.f12 rfl rfl rfl rfl rfl rfl rfl ⟨rfl, rfl, rfl, rfl, rfl⟩ rfl rfl rfl rfl rfl (by kernel_rfl) Try.func12 (by kernel_rfl)
    (of_decide_eq_true (by kernel_rfl)) (by unfold Func.isWrapper; first | (rw [if_pos (by decide +kernel)]; kernel_rfl) | (rw [if_neg (by decide +kernel)]; exact ⟨rfl, rfl⟩))
    (fun os started H enc _ => lifted os started H enc)
end Go.Proofs.Ytkkomlcjcgdbeaa.ipv4Told
namespace Go.Proofs.Ytkkomlcjcgdbeaa
theorem ipv4Told_holds : Rows.Ipv4ToldSaid := ipv4Told.over
#print axioms ipv4Told_holds
end Go.Proofs.Ytkkomlcjcgdbeaa
namespace Go.Proofs.Ytkkomlcjcgdbeaa
open Go.SLA
end Go.Proofs.Ytkkomlcjcgdbeaa
