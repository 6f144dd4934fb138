/- The law ReasmWhole of the package pitotlaw09 holds for every input: parts that come in order, and soon enough, come out as the packet, whatever parts of others come between them. No condition. -/
import Derived.Test.YtjpbpfihacfndaaRi
import Derived.Test.YtjpbpfihacfndaaFd
import Derived.Test.YtjpbpfihacfndaaH
namespace Go.Proofs.Ytjpbpfihacfndaa
open Go.SLA
set_option maxRecDepth 100000
set_option linter.unusedVariables false
set_option linter.unusedSimpArgs false
attribute [local irreducible] J L K QL Rg FSpec OpV OpX Rd Back

def Fresh (wt now : Int) (T : TS) : Prop := ∀ b ∈ T.q, ¬ wt < now - b.t
theorem pass_fresh {wt now : Int} {T : TS} (h : Fresh wt now T) : T.pass wt now = ⟨T.q, now, T.dr⟩ := pass_stop (q := T.q) (n0 := T.now) (d := T.dr) (fun b hb => h b (List.mem_of_mem_head? hb))
theorem bfind_wob_ne {q : List Bg} {k k' : Ky} (h : k' ≠ k) : bfind (wob q k) k' = bfind q k' := by
  unfold bfind wob
  rw [List.find?_filter]
  congr 1
  funext b
  by_cases hb : b.k = k'
  · simp [hb, h]
  · simp [hb]
theorem bfind_app_ne {q : List Bg} {b : Bg} {k' : Ky} (h : b.k ≠ k') : bfind (q ++ [b]) k' = bfind q k' := by
  unfold bfind
  rw [List.find?_append]
  have : ([b].find? fun b => decide (b.k = k')) = none := by simp [h]
  rw [this]
  simp
theorem bfind_upd {q : List Bg} {k k' : Ky} {d : ByteArray} : bfind (upd q k d) k' = (bfind q k').map fun b => if b.k = k then ⟨b.k, b.t, b.data ++ d⟩ else b := by
  unfold bfind upd
  rw [List.find?_map]
  congr 1
  congr 1
  funext b
  show decide ((if b.k = k then (⟨b.k, b.t, b.data ++ d⟩ : Bg) else b).k = k') = decide (b.k = k')
  split <;> rfl
theorem bfind_k {q : List Bg} {k : Ky} {b : Bg} (h : bfind q k = some b) : b.k = k := by
  have := List.find?_some h
  simpa using this
theorem bfind_upd_ne {q : List Bg} {k k' : Ky} {d : ByteArray} (h : k' ≠ k) : bfind (upd q k d) k' = bfind q k' := by
  rw [bfind_upd]
  cases hf : bfind q k' with
  | none => rfl
  | some b =>
    have := bfind_k hf
    simp only [Option.map_some]
    rw [if_neg (by rw [this]; exact h)]
theorem bfind_free_ne {T : TS} {k k' : Ky} (h : k' ≠ k) : bfind (T.free k).q k' = bfind T.q k' := by
  unfold TS.free
  split
  · exact bfind_wob_ne h
  · rfl
/-- A part of another packet leaves a packet's bytes. -/
theorem put_other {T : TS} {m wt now : Int} {x : Pk} {k : Ky} (hk : k ≠ kyOf x) (hf : Fresh wt now T) : bfind (T.put m wt now x).2.q k = bfind T.q k := by
  by_cases ht : timC T.now now = 0
  · have hp := pass_fresh hf
    by_cases ho : x.off = 0
    · cases hm : x.more with
      | false => rw [put_whole ht ho hm, hp]
      | true =>
        rw [put_begin ht ho hm, hp]
        by_cases h1 : sndC x 0 = 0
        · by_cases h2 : m ≤ ((TS.free ⟨T.q, now, T.dr⟩ (kyOf x)).q.length : Int)
          · rw [begn_full h1 h2]; exact bfind_free_ne hk
          · rw [begn_ok h1 h2]
            exact (bfind_app_ne (fun h => hk h.symm)).trans (bfind_free_ne hk)
        · rw [begn_bad h1]; exact bfind_free_ne hk
    · cases hb : bfind (T.pass wt now).q (kyOf x) with
      | none => rw [put_none ht ho hb, hp]
      | some b =>
        rw [put_some ht ho hb, hp]
        split
        · exact bfind_wob_ne hk
        · split
          · exact bfind_upd_ne hk
          · exact bfind_wob_ne hk
  · rw [put_bad ht]
theorem ext_cat (s : ByteArray) (a e : Nat) (h : a ≤ e) : s.extract 0 a ++ s.extract a e = s.extract 0 e := by
  rw [ByteArray.extract_append_extract]
  congr 1 <;> omega
theorem ext_all (s : ByteArray) : s.extract 0 s.size = s := by simp
/-- What is true behind so many parts. -/
structure WInv (p : Pk) (L : List Pk) (w r n i a : Nat) (T : TS) : Prop where
  le : i ≤ L.length
  ok : TOk n T
  now : T.now ≤ i
  rest : i < L.length → L.drop i = splitL p w r a ∧ a % 8 = 0 ∧ a ≤ p.data.size ∧ (i = 0 → a = 0 ∧ T = ⟨[], 0, 0⟩) ∧ (0 < i → 0 < a ∧ ∃ b, bfind T.q (kyOf p) = some b ∧ b.data = p.data.extract 0 a)
theorem TOk.fresh {n : Nat} {T : TS} (h : TOk n T) {wt now : Int} (hn : now ≤ wt) : Fresh wt now T := fun b hb => by
  have := (h.bg b hb).1
  omega
theorem drop_get? {L : List Pk} {i : Nat} {x : Pk} {l : List Pk} (h : L.drop i = x :: l) : L[i]? = some x ∧ L.drop (i + 1) = l ∧ L.length = i + 1 + l.length := by
  have h1 : L[i]? = some x := by
    have := congrArg (fun l : List Pk => l[0]?) h
    simpa using this
  have h2 : L.drop (i + 1) = l := by
    rw [← List.drop_drop, h]
    rfl
  refine ⟨h1, h2, ?_⟩
  have := congrArg List.length h2
  rw [List.length_drop] at this
  have hl := klt h1
  omega
theorem WInv.step {p : Pk} {L : List Pk} {w r n i a : Nat} {T : TS} (h : WInv p L w r n i a T) (hi : i < L.length) (hm : p.more = false) (ho : p.off = 0) (hz : p.data.size ≤ 8200) (hr : r % 8 = 0 ∧ 0 < r ∧ r ≤ w) (hL : L.length ≤ 1000000) :
    ∃ x a', L[i]? = some x ∧ (T.put 40 1000000 i x).1 = (if i + 1 = L.length then (p, true, 0) else (pkz, false, 0)) ∧ WInv p L w r (n + 1) (i + 1) a' (T.put 40 1000000 i x).2 := by
  obtain ⟨h1, h2, h3, h4, h5⟩ := h.rest hi
  have hf := h.ok.fresh (wt := 1000000) (now := i) (by omega)
  have hp := pass_fresh hf
  have ht : timC T.now i = 0 := tim0 h.now (by omega)
  have hput := fun x => h.ok.put 40 1000000 i x
  have hnw := fun x => put_now T 40 1000000 i x
  have hnow := h.now
  by_cases hc : a + w < p.data.size
  · rw [splitL_a hc hr.2.1] at h1
    obtain ⟨g1, g2, g3⟩ := drop_get? h1
    have hne : 0 < (splitL p w r (a + r)).length := by rw [splitL]; split <;> simp
    have hps := part_size p a (a + r) (by omega)
    have hx : kyOf (prt p a (a + r)) = kyOf p := rfl
    have hxm : (prt p a (a + r)).more = true := decide_eq_true (by omega)
    have hs : sndC (prt p a (a + r)) a = 0 := by
      unfold sndC
      rw [if_neg (by rintro (g | g); omega; exact g rfl), if_neg (by rintro ⟨_, g⟩; rw [hps] at g; omega), if_neg (by rw [hps]; omega)]
    refine ⟨prt p a (a + r), a + r, g1, ?_⟩
    rw [if_neg (by omega)]
    have rest' : i + 1 < L.length → L.drop (i + 1) = splitL p w r (a + r) ∧ (a + r) % 8 = 0 ∧ a + r ≤ p.data.size := fun _ => ⟨g2, by omega, by omega⟩
    rcases Nat.eq_zero_or_pos i with rfl | hi0
    · obtain ⟨rfl, rfl⟩ := h4 rfl
      have hbeg : TS.put ⟨[], 0, 0⟩ 40 1000000 ((0 : Nat) : Int) (prt p 0 (0 + r)) = ((pkz, false, 0), ⟨[⟨kyOf p, 0, (prt p 0 (0 + r)).data⟩], 0, 0⟩) := by
        rw [put_begin ht rfl hxm, hp]
        have hfr : TS.free ⟨[], ((0 : Nat) : Int), 0⟩ (kyOf (prt p 0 (0 + r))) = ⟨[], 0, 0⟩ := if_neg (fun h => by cases h)
        rw [begn_ok hs (by rw [hfr]; show ¬ (40 : Int) ≤ ((0 : Nat) : Int); decide), hfr]
        rfl
      refine ⟨by rw [hbeg], ⟨by omega, hput _, by have := hnw (prt p 0 (0 + r)); dsimp only at this; omega, fun g => ?_⟩⟩
      obtain ⟨q1, q2, q3⟩ := rest' g
      refine ⟨q1, q2, q3, fun e => by omega, fun _ => ⟨by omega, ⟨kyOf p, 0, (prt p 0 (0 + r)).data⟩, ?_, rfl⟩⟩
      rw [hbeg]
      unfold bfind
      simp
    · obtain ⟨ha, b, hb, hbd⟩ := h5 hi0
      have hbs : b.data.size = a := by rw [hbd, ByteArray.size_extract]; omega
      have hox : (prt p a (a + r)).off ≠ 0 := by show ((a / 8 : Nat) : Int) ≠ 0; omega
      have hb' : bfind (T.pass 1000000 i).q (kyOf (prt p a (a + r))) = some b := by rw [hp, hx]; exact hb
      have hmid : T.put 40 1000000 i (prt p a (a + r)) = ((pkz, false, 0), ⟨upd T.q (kyOf p) (prt p a (a + r)).data, i, T.dr⟩) := by
        rw [put_some ht hox hb', hbs, if_neg (fun n => n hs), if_pos hxm, hp, hx]
      refine ⟨by rw [hmid], ⟨by omega, hput _, by have := hnw (prt p a (a + r)); omega, fun g => ?_⟩⟩
      obtain ⟨q1, q2, q3⟩ := rest' g
      refine ⟨q1, q2, q3, fun e => by omega, fun _ => ⟨by omega, ⟨b.k, b.t, b.data ++ (prt p a (a + r)).data⟩, ?_, ?_⟩⟩
      · rw [hmid]
        show bfind (upd T.q (kyOf p) _) (kyOf p) = _
        rw [bfind_upd, hb]
        simp only [Option.map_some]
        rw [if_pos (bfind_k hb)]
      · show b.data ++ p.data.extract a (a + r) = _
        rw [hbd, ext_cat _ _ _ (by omega)]
  · rw [splitL_b hc] at h1
    obtain ⟨g1, g2, g3⟩ := drop_get? h1
    have g3' : L.length = i + 1 := g3
    have hps := part_size p a p.data.size (Nat.le_refl _)
    have hxm : (prt p a p.data.size).more = false := decide_eq_false (by omega)
    have hx : kyOf (prt p a p.data.size) = kyOf p := rfl
    refine ⟨prt p a p.data.size, 0, g1, ?_⟩
    rw [if_pos g3'.symm]
    have fin : ∀ hh : (T.put 40 1000000 i (prt p a p.data.size)).1 = (p, true, 0), (T.put 40 1000000 i (prt p a p.data.size)).1 = (p, true, 0) ∧ WInv p L w r (n + 1) (i + 1) 0 (T.put 40 1000000 i (prt p a p.data.size)).2 := fun hh =>
      ⟨hh, ⟨by omega, hput _, by have := hnw (prt p a p.data.size); omega, fun g => by omega⟩⟩
    rcases Nat.eq_zero_or_pos i with rfl | hi0
    · obtain ⟨rfl, rfl⟩ := h4 rfl
      refine fin ?_
      rw [put_whole ht rfl hxm]
      show ((⟨p.id, decide _, ((0 / 8 : Nat) : Int), p.ttl, p.proto, p.s0, p.s1, p.s2, p.s3, p.d0, p.d1, p.d2, p.d3, p.data.extract 0 p.data.size⟩ : Pk), true, (0 : Int)) = _
      rw [decide_eq_false (by omega), ext_all, ← hm]
      congr 1
      cases p
      dsimp only at ho ⊢
      rw [ho]
      rfl
    · obtain ⟨ha, b, hb, hbd⟩ := h5 hi0
      have hbs : b.data.size = a := by rw [hbd, ByteArray.size_extract]; omega
      have hox : (prt p a p.data.size).off ≠ 0 := by show ((a / 8 : Nat) : Int) ≠ 0; omega
      have hb' : bfind (T.pass 1000000 i).q (kyOf (prt p a p.data.size)) = some b := by rw [hp, hx]; exact hb
      have hs : sndC (prt p a p.data.size) a = 0 := by
        unfold sndC
        rw [if_neg (by rintro (g | g); omega; exact g rfl), if_neg (by rintro ⟨g, _⟩; rw [hxm] at g; cases g), if_neg (by rw [hps]; omega)]
      refine fin ?_
      rw [put_some ht hox hb', hbs, if_neg (fun n => n hs), if_neg (by rw [hxm]; decide)]
      show ((⟨p.id, decide _, 0, p.ttl, p.proto, p.s0, p.s1, p.s2, p.s3, p.d0, p.d1, p.d2, p.d3, b.data ++ p.data.extract a p.data.size⟩ : Pk), true, (0 : Int)) = _
      rw [decide_eq_false (by omega), hbd, ext_cat _ _ _ h3, ext_all, ← hm]
      congr 1
      cases p
      dsimp only at ho ⊢
      rw [ho]
theorem WInv.more {p : Pk} {L : List Pk} {w r n i a : Nat} {T : TS} (h : WInv p L w r n i a T) : WInv p L w r (n + 1) i a T := { h with ok := h.ok.more }
theorem WInv.other {p x : Pk} {L : List Pk} {w r n i a : Nat} {T : TS} (h : WInv p L w r n (i + 1) a T) (hk : kyOf p ≠ kyOf x) (hi : i ≤ 1000000) : WInv p L w r (n + 1) (i + 1) a (T.put 40 1000000 i x).2 := by
  have hf := h.ok.fresh (wt := 1000000) (now := i) (by omega)
  have hnw := put_now T 40 1000000 i x
  have hnow := h.now
  refine ⟨h.le, h.ok.put _ _ _ _, by omega, fun g => ?_⟩
  obtain ⟨h1, h2, h3, h4, h5⟩ := h.rest g
  refine ⟨h1, h2, h3, fun e => by omega, fun g2 => ?_⟩
  obtain ⟨ha, b, hb, hbd⟩ := h5 g2
  exact ⟨ha, b, by rw [put_other hk hf]; exact hb, hbd⟩
theorem wrap_ne {n : Int} (h : (Lit.int .i64 n).wf = true) : IntKind.i64.wrap (n + 1) ≠ n := by
  have hb : -9223372036854775808 ≤ n ∧ n ≤ 9223372036854775807 := by simpa [Lit.wf, IntKind.min, IntKind.max, IntKind.signed, IntKind.bits] using h
  by_cases e : n = 9223372036854775807
  · subst e; decide
  · rw [Go.IntWalk.i64_in (n + 1) (by omega)]; omega
theorem ky_ne {p x : Pk} (h : x.id ≠ p.id) : kyOf p ≠ kyOf x := fun e => h (congrArg Ky.id e).symm

theorem RH_bad (W : World) (A : Option Addr) (c : Nat) (xs : List Pk) (p : Pk) (m : Int) (hR : RdS (old W) encPk 14 A xs) (hx : xs.length ≤ 9223372036854775807) (hb : ¬ (codeS p m = 0 ∧ p.data.size ≤ 8200 ∧ xs.length ≤ 20)) : FSpec Try.prog 12 #[.agg (encPk p).toArray, .int .i64 m, .slice A xs.length c] (old W) (fun _ : Unit => True) (fun _ => .bool true) (fun _ => old W) := by
  refine FSpec.enter' Try.func12 rfl Try.ntmps12 rfl fun σ F => ?_
  refine J_seq ?_
  refine J_region ?_
  refine L_x rfl (opx_box (l := [.int .i64 p.id, .bool p.more, .int .i64 p.off, .int .i64 p.ttl, .int .i64 p.proto, .int .u8 p.s0, .int .u8 p.s1, .int .u8 p.s2, .int .u8 p.s3, .int .u8 p.d0, .int .u8 p.d1, .int .u8 p.d2, .int .u8 p.d3, .string p.data]) rfl rfl) (fun b3 _ => ?_)
  refine L_v (opv_assign rfl) rfl ?_
  refine L_nil ?_
  refine K_then ?_
  refine J_seq ?_
  refine J_region ?_
  refine L_v (opv_loadS rfl) rfl ?_
  refine L_v (opv_move rfl) rfl ?_
  refine L_x rfl (opx_call0 (Split_all p m) rfl rfl rfl) (fun r1 _ => ?_)
  refine L_v (opv_move rfl) rfl ?_
  refine L_v (opv_extract rfl rfl) rfl ?_
  refine L_v (opv_extract rfl rfl) rfl ?_
  refine L_v (opv_assign rfl) rfl ?_
  refine L_v (opv_assign rfl) rfl ?_
  refine L_nil ?_
  refine K_then ?_
  refine J_seq ?_
  refine J_seq ?_
  refine J_region ?_
  refine L_v (opv_move rfl) rfl ?_
  first
    | refine L_v (opv_neq rfl rfl) rfl ?_
    | refine L_v (opv_neqS rfl rfl) rfl ?_
    | refine L_v (opv_neqNil rfl rfl) rfl ?_
    | refine L_v (opv_neqB rfl rfl) rfl ?_
  refine L_v (opv_move rfl) rfl ?_
  refine L_gf rfl rfl (fun h1 => ?_) (fun h1 => ?_) (fun _ h => by cases h; rfl)
  · first
      | refine L_v (opv_fieldAddr0 rfl) rfl ?_
      | refine L_v (opv_fieldAddr rfl) rfl ?_
    refine L_gf_on h1 rfl rfl ?_
    refine L_v (opv_load rfl (Rd.look rfl)) rfl ?_
    refine L_gf_on h1 rfl rfl ?_
    first
      | refine L_v (opv_lenL rfl) rfl ?_
      | refine L_v (opv_lenS rfl) rfl ?_
    refine L_gf_on h1 rfl rfl ?_
    refine L_v (opv_gtr rfl rfl) rfl ?_
    refine L_v (opv_pick_f rfl h1 rfl) rfl ?_
    refine L_v (opv_move rfl) rfl ?_
    refine L_gf rfl rfl (fun h2 => ?_) (fun h2 => ?_) (fun _ h => by cases h; rfl)
    · refine L_v (opv_move rfl) rfl ?_
      refine L_gf_on h2 rfl rfl ?_
      first
        | refine L_v (opv_lenL rfl) rfl ?_
        | refine L_v (opv_lenS rfl) rfl ?_
      refine L_gf_on h2 rfl rfl ?_
      refine L_v (opv_gtr rfl rfl) rfl ?_
      refine L_v (opv_pick_f rfl h2 rfl) rfl ?_
      refine L_nil ?_
      refine K_then ?_
      refine J_cond rfl (fun h3 => ?_) (fun h3 => absurd ⟨by omega, by omega, by omega⟩ hb)
      refine J_seq ?_
      refine J_region ?_
      refine L_x rfl (opx_call0 (rawake_spec) rfl rfl rfl) (fun _ _ => ?_)
      refine L_emp ?_
      refine L_v (opv_assign rfl) rfl ?_
      refine L_nil ?_
      refine K_then ?_
      refine J_ret ?_
      refine K_then_ret ?_
      exact K_ret1 rfl rfl () trivial (rfl) Ent.take
    · refine L_gf_off h2 rfl rfl ?_ (fun _ h => by cases h; rfl)
      refine L_gf_off h2 rfl rfl ?_ (fun _ h => by cases h; rfl)
      refine L_v (opv_pick_t rfl h2 rfl) rfl ?_
      refine L_nil ?_
      refine K_then ?_
      refine J_cond_true rfl ?_
      refine J_seq ?_
      refine J_region ?_
      refine L_x rfl (opx_call0 (rawake_spec) rfl rfl rfl) (fun _ _ => ?_)
      refine L_emp ?_
      refine L_v (opv_assign rfl) rfl ?_
      refine L_nil ?_
      refine K_then ?_
      refine J_ret ?_
      refine K_then_ret ?_
      exact K_ret1 rfl rfl () trivial (rfl) Ent.take
  · refine L_gf_off h1 rfl rfl ?_ (fun _ h => by cases h; rfl)
    refine L_gf_off h1 rfl rfl ?_ (fun _ h => by cases h; rfl)
    refine L_gf_off h1 rfl rfl ?_ (fun _ h => by cases h; rfl)
    refine L_v (opv_pick_t rfl h1 rfl) rfl ?_
    refine L_v (opv_move rfl) rfl ?_
    refine L_gskip rfl rfl rfl ?_ (fun _ h => by cases h; rfl)
    refine L_gskip rfl rfl rfl ?_ (fun _ h => by cases h; rfl)
    refine L_gskip rfl rfl rfl ?_ (fun _ h => by cases h; rfl)
    first
      | refine L_v (opv_pick_tt rfl rfl) rfl ?_
      | refine L_v (opv_pick_ff rfl rfl) rfl ?_
      | refine L_v (opv_pick rfl rfl rfl) rfl ?_
    refine L_nil ?_
    refine K_then ?_
    refine J_cond_true rfl ?_
    refine J_seq ?_
    refine J_region ?_
    refine L_x rfl (opx_call0 (rawake_spec) rfl rfl rfl) (fun _ _ => ?_)
    refine L_emp ?_
    refine L_v (opv_assign rfl) rfl ?_
    refine L_nil ?_
    refine K_then ?_
    refine J_ret ?_
    refine K_then_ret ?_
    exact K_ret1 rfl rfl () trivial (rfl) Ent.take


theorem part_le {p x : Pk} {m : Int} {i : Nat} (h : (partsC p m)[i]? = some x) : x.data.size ≤ p.data.size := by
  have hm := List.mem_of_getElem? h
  unfold partsC at hm
  split at hm
  · have key : ∀ a, ∀ y ∈ splitL p (m.toNat - 39) (roomN m.toNat) a, y.data.size ≤ p.data.size := by
      rename_i hc
      obtain ⟨g1, _, _, _⟩ := codeS_ok hc
      unfold sizeB at g1
      have hr := roomN_ge (m := m.toNat) (by omega)
      have sz : ∀ a e, (prt p a e).data.size ≤ p.data.size := fun a e => by
        show (p.data.extract a e).size ≤ _
        rw [ByteArray.size_extract]
        omega
      exact splitL_ind (M := fun _ l => ∀ y ∈ l, y.data.size ≤ p.data.size) (fun a _ y hy => by rw [List.mem_singleton.1 hy]; exact sz _ _) (fun a l _ ih y hy => by
        rcases List.mem_cons.1 hy with rfl | hy
        · exact sz _ _
        · exact ih y hy) (by omega)
    exact key 0 x hm
  · cases hm

set_option maxHeartbeats 1000000 in
theorem RH_ok (W : World) (A : Option Addr) (c : Nat) (xs : List Pk) (p : Pk) (m : Int) (hR : RdS (old W) encPk 14 A xs) (hx : xs.length ≤ 9223372036854775807) (hid : (Lit.int .i64 p.id).wf = true) (hokp : okA p) (h1 : codeS p m = 0) (h2 : p.data.size ≤ 8200) (h3 : xs.length ≤ 20) : FSpec Try.prog 12 #[.agg (encPk p).toArray, .int .i64 m, .slice A xs.length c] (old W) (fun _ : Unit => True) (fun _ => .bool true) (fun _ => old W) := by
  obtain ⟨g1, g2, g3, g4⟩ := codeS_ok h1
  unfold sizeB at g1
  have hr := roomN_ge (m := m.toNat) (by omega)
  have hln := (partsC_ok (m := m) hokp).2
  have hL0 : (partsC p m) = splitL p (m.toNat - 39) (roomN m.toNat) 0 := by unfold partsC; rw [if_pos h1]
  refine FSpec.enter' Try.func12 rfl Try.ntmps12 rfl fun σ F => ?_
  refine J_seq ?_
  refine J_region ?_
  refine L_x rfl (opx_box (l := [.int .i64 p.id, .bool p.more, .int .i64 p.off, .int .i64 p.ttl, .int .i64 p.proto, .int .u8 p.s0, .int .u8 p.s1, .int .u8 p.s2, .int .u8 p.s3, .int .u8 p.d0, .int .u8 p.d1, .int .u8 p.d2, .int .u8 p.d3, .string p.data]) rfl rfl) (fun b3 _ => ?_)
  refine L_v (opv_assign rfl) rfl ?_
  refine L_nil ?_
  refine K_then ?_
  refine J_seq ?_
  refine J_region ?_
  refine L_v (opv_loadS rfl) rfl ?_
  refine L_v (opv_move rfl) rfl ?_
  refine L_x rfl (opx_call0 (Split_all p m) rfl rfl rfl) (fun r1 _ => ?_)
  refine L_v (opv_move rfl) rfl ?_
  refine L_v (opv_extract rfl rfl) rfl ?_
  refine L_v (opv_extract rfl rfl) rfl ?_
  refine L_v (opv_assign rfl) rfl ?_
  refine L_v (opv_assign rfl) rfl ?_
  refine L_nil ?_
  refine K_then ?_
  refine J_seq ?_
  refine J_seq ?_
  refine J_region ?_
  refine L_v (opv_move rfl) rfl ?_
  refine L_v ((opv_neq rfl rfl).bool_f (fun n => n h1)) rfl ?_
  refine L_v (opv_move rfl) rfl ?_
  refine L_gon rfl rfl rfl ?_
  first
    | refine L_v (opv_fieldAddr0 rfl) rfl ?_
    | refine L_v (opv_fieldAddr rfl) rfl ?_
  refine L_gon rfl rfl rfl ?_
  refine L_v (opv_load rfl (Rd.look rfl)) rfl ?_
  refine L_gon rfl rfl rfl ?_
  first
    | refine L_v (opv_lenL rfl) rfl ?_
    | refine L_v (opv_lenS rfl) rfl ?_
  refine L_gon rfl rfl rfl ?_
  refine L_v ((opv_gtr rfl rfl).bool_f (by omega)) rfl ?_
  first
    | refine L_v (opv_pick_tt rfl rfl) rfl ?_
    | refine L_v (opv_pick_ff rfl rfl) rfl ?_
    | refine L_v (opv_pick rfl rfl rfl) rfl ?_
  refine L_v (opv_move rfl) rfl ?_
  refine L_gon rfl rfl rfl ?_
  refine L_v (opv_move rfl) rfl ?_
  refine L_gon rfl rfl rfl ?_
  first
    | refine L_v (opv_lenL rfl) rfl ?_
    | refine L_v (opv_lenS rfl) rfl ?_
  refine L_gon rfl rfl rfl ?_
  refine L_v ((opv_gtr rfl rfl).bool_f (by omega)) rfl ?_
  first
    | refine L_v (opv_pick_tt rfl rfl) rfl ?_
    | refine L_v (opv_pick_ff rfl rfl) rfl ?_
    | refine L_v (opv_pick rfl rfl rfl) rfl ?_
  refine L_nil ?_
  refine K_then ?_
  refine J_cond_false rfl ?_
  refine J_skip ?_
  refine K_then ?_
  refine J_seq ?_
  refine J_region ?_
  refine L_x rfl (opx_call0 (New_okE 40 1000000 (by decide) (by decide)) rfl rfl rfl) (fun tp _ => ?_)
  refine L_v (opv_move rfl) rfl ?_
  refine L_v (opv_extract rfl rfl) rfl ?_
  refine L_v (opv_extract rfl rfl) rfl ?_
  refine L_v (opv_assign rfl) rfl ?_
  refine L_v (opv_assign rfl) rfl ?_
  refine L_nil ?_
  refine K_then ?_
  refine J_seq ?_
  refine J_seq ?_
  refine J_region ?_
  refine L_v (opv_move rfl) rfl ?_
  refine L_v ((opv_neq rfl rfl).bool_f (by decide)) rfl ?_
  refine L_v (opv_move rfl) rfl ?_
  refine L_gon rfl rfl rfl ?_
  refine L_v (opv_move rfl) rfl ?_
  refine L_gon rfl rfl rfl ?_
  first
    | refine L_v (opv_eql rfl rfl) rfl ?_
    | refine L_v (opv_eqlS rfl rfl) rfl ?_
    | refine L_v (opv_eqlNil rfl rfl) rfl ?_
    | refine L_v (opv_eqlB rfl rfl) rfl ?_
  first
    | refine L_v (opv_pick_tt rfl rfl) rfl ?_
    | refine L_v (opv_pick_ff rfl rfl) rfl ?_
    | refine L_v (opv_pick rfl rfl rfl) rfl ?_
  refine L_nil ?_
  refine K_then ?_
  refine J_cond_false rfl ?_
  refine J_skip ?_
  refine K_then ?_
  refine J_seq ?_
  refine J_seq ?_
  obtain ⟨A1, c1⟩ := r1
  refine J_imp (sep (Own 32 14 (.slice A1 (partsC p m).length c1) (partsC p m).length ((partsC p m).flatMap encPk)) (sep (TabP tp 40 1000000 ⟨[], 0, 0⟩) (sep (cel b3 [.int .i64 p.id, .bool p.more, .int .i64 p.off, .int .i64 p.ttl, .int .i64 p.proto, .int .u8 p.s0, .int .u8 p.s1, .int .u8 p.s2, .int .u8 p.s3, .int .u8 p.d0, .int .u8 p.d1, .int .u8 p.d2, .int .u8 p.d3, .string p.data] 32) (sep (old W) (F))))) ?_ ?_
  · exact Ent.take
  refine J_know (fun w hs => own_nonnil hs) fun hA1 => ?_
  refine J_region ?_
  refine L_v (opv_assign rfl) rfl ?_
  refine L_nil ?_
  refine K_then ?_
  refine J_block ?_
  refine J_loop (X := Nat × Nat × TS) (fun z => [(2, .slice A xs.length c), (3, .pointer (some (ad b3 0))), (7, .slice A1 (partsC p m).length c1), (9, .pointer (some (ad tp 0))), (11, .int .i64 z.1)]) (fun z => (sep (TabP tp 40 1000000 z.2.2) (sep (Own 32 14 (.slice A1 (partsC p m).length c1) (partsC p m).length ((partsC p m).flatMap encPk)) (sep (cel b3 [.int .i64 p.id, .bool p.more, .int .i64 p.off, .int .i64 p.ttl, .int .i64 p.proto, .int .u8 p.s0, .int .u8 p.s1, .int .u8 p.s2, .int .u8 p.s3, .int .u8 p.d0, .int .u8 p.d1, .int .u8 p.d2, .int .u8 p.d3, .string p.data] 32) (sep (old W) (F)))))) (fun z => z.1 ≤ (partsC p m).length ∧ WInv p (partsC p m) (m.toNat - 39) (roomN m.toNat) (2 * z.1) z.1 z.2.1 z.2.2) (fun z => (partsC p m).length - z.1) ((0, 0, ⟨[], 0, 0⟩)) ⟨Nat.zero_le _, ⟨Nat.zero_le _, tok0, Int.le_refl _, fun _ => ⟨hL0, rfl, Nat.zero_le _, fun _ => ⟨rfl, rfl⟩, fun h => absurd h (Nat.lt_irrefl _)⟩⟩⟩ ⟨rfl, rfl, rfl, rfl, rfl, trivial⟩ Ent.take (fun z hz => ?_)
  obtain ⟨hzl, hz⟩ := hz
  rcases (show z.1 = (partsC p m).length ∨ (z.1 < (partsC p m).length ∧ z.1 + 1 = (partsC p m).length) ∨ (z.1 < (partsC p m).length ∧ z.1 + 1 < (partsC p m).length) by omega) with he0 | ⟨hi, he⟩ | ⟨hi, he⟩
  · refine J_seq ?_
    refine J_seq ?_
    refine J_region ?_
    refine L_v (opv_move rfl) rfl ?_
    refine L_v (opv_move rfl) rfl ?_
    first
      | refine L_v (opv_lenL rfl) rfl ?_
      | refine L_v (opv_lenS rfl) rfl ?_
    first
      | refine L_v ((opv_lss rfl rfl).bool_t (by omega)) rfl ?_
      | refine L_v ((opv_lss rfl rfl).bool_f (by omega)) rfl ?_
    refine L_nil ?_
    refine K_then ?_
    refine J_cond_false rfl ?_
    refine J_exit ?_
    refine K_then_exit ?_
    refine K_then_exit ?_
    refine K_block_here ?_
    refine K_then ?_
    refine J_seq ?_
    refine J_region ?_
    refine L_x rfl (opx_call0 (rawake_spec) rfl rfl rfl) (fun _ _ => ?_)
    refine L_emp ?_
    refine L_v (opv_assign rfl) rfl ?_
    refine L_nil ?_
    refine K_then ?_
    refine J_ret ?_
    exact K_ret1 rfl rfl () trivial (rfl) Ent.take
  · refine J_seq ?_
    refine J_seq ?_
    obtain ⟨x, a', hx1, hst, hw1⟩ := hz.step hi g2 g3 h2 ⟨hr.2.2.2, by omega, hr.2.1⟩ (by omega)
    obtain ⟨b1, o1, rfl⟩ : ∃ b o, A1 = some (ad b o) := by rcases hA1 with ⟨_, _, h, _⟩ | h; omega; exact h
    refine J_region ?_
    refine L_v (opv_move rfl) rfl ?_
    refine L_v (opv_move rfl) rfl ?_
    first
      | refine L_v (opv_lenL rfl) rfl ?_
      | refine L_v (opv_lenS rfl) rfl ?_
    first
      | refine L_v ((opv_lss rfl rfl).bool_t (by omega)) rfl ?_
      | refine L_v ((opv_lss rfl rfl).bool_f (by omega)) rfl ?_
    refine L_nil ?_
    refine K_then ?_
    refine J_cond_true rfl ?_
    refine J_skip ?_
    refine K_then ?_
    refine J_seq ?_
    refine J_block ?_
    refine J_seq ?_
    have hsp : FSpec Try.prog 32 #[.pointer (some (ad tp 0)), .int .i64 z.1, .agg [.int .i64 x.id, .bool x.more, .int .i64 x.off, .int .i64 x.ttl, .int .i64 x.proto, .int .u8 x.s0, .int .u8 x.s1, .int .u8 x.s2, .int .u8 x.s3, .int .u8 x.d0, .int .u8 x.d1, .int .u8 x.d2, .int .u8 x.d3, .string x.data].toArray] (TabP tp 40 1000000 z.2.2) (fun _ : Unit => True) (fun _ => .tuple #[.agg [.int .i64 p.id, .bool p.more, .int .i64 p.off, .int .i64 p.ttl, .int .i64 p.proto, .int .u8 p.s0, .int .u8 p.s1, .int .u8 p.s2, .int .u8 p.s3, .int .u8 p.d0, .int .u8 p.d1, .int .u8 p.d2, .int .u8 p.d3, .string p.data].toArray, .bool true, .int .i64 0]) (fun _ => TabP tp 40 1000000 (z.2.2.put 40 1000000 z.1 x).2) := by
        have := Put_any tp 40 1000000 z.2.2 z.1 x (2 * z.1) hz.ok (by omega) (by decide) (by have := part_le hx1; omega)
        rw [hst, if_pos he] at this
        exact this
    refine J_region ?_
    refine L_v (opv_move rfl) rfl ?_
    refine L_v (opv_move rfl) rfl ?_
    refine L_v (opv_move rfl) rfl ?_
    refine L_v (opv_move rfl) rfl ?_
    first
      | refine L_v (opv_indexAddr rfl rfl (by omega)) rfl ?_
      | refine L_v (opv_indexAddrA rfl rfl (by omega)) rfl ?_
    refine L_v (opv_loadN (vs := [.int .i64 x.id, .bool x.more, .int .i64 x.off, .int .i64 x.ttl, .int .i64 x.proto, .int .u8 x.s0, .int .u8 x.s1, .int .u8 x.s2, .int .u8 x.s3, .int .u8 x.d0, .int .u8 x.d1, .int .u8 x.d2, .int .u8 x.d3, .string x.data]) rfl rfl (fun j u hj => Rd.of_take (S := Own 32 14 (.slice (some (ad b1 o1)) (partsC p m).length c1) (partsC p m).length ((partsC p m).flatMap encPk)) ((RdS.own (m := 14) (e := 32) (c := c1) encPk_len (.inr ⟨b1, o1, rfl⟩)).rd b1 o1 rfl z.1 x j u hx1 hj))) rfl ?_
    refine L_x rfl (opx_call0 (hsp) rfl rfl rfl) (fun _ _ => ?_)
    refine L_v (opv_move rfl) rfl ?_
    first
      | refine L_v (opv_extract (v := .agg [.int .i64 p.id, .bool p.more, .int .i64 p.off, .int .i64 p.ttl, .int .i64 p.proto, .int .u8 p.s0, .int .u8 p.s1, .int .u8 p.s2, .int .u8 p.s3, .int .u8 p.d0, .int .u8 p.d1, .int .u8 p.d2, .int .u8 p.d3, .string p.data].toArray) rfl rfl) rfl ?_
      | refine L_v (opv_extract (v := .agg [.int .i64 0, .bool false, .int .i64 0, .int .i64 0, .int .i64 0, .int .u8 0, .int .u8 0, .int .u8 0, .int .u8 0, .int .u8 0, .int .u8 0, .int .u8 0, .int .u8 0, .string ⟨#[]⟩].toArray) rfl rfl) rfl ?_
    refine L_v (opv_extract rfl rfl) rfl ?_
    refine L_v (opv_extract rfl rfl) rfl ?_
    refine L_x rfl (opx_alloc rfl) (fun b12 _ => ?_)
    refine L_x rfl (opx_store rfl rfl rfl (by simp [Value.oneCell'])) (fun _ _ => ?_)
    refine L_v (opv_assign rfl) rfl ?_
    refine L_v (opv_assign rfl) rfl ?_
    refine L_nil ?_
    refine K_then ?_
    refine J_seq ?_
    refine J_region ?_
    refine L_v (opv_move rfl) rfl ?_
    first
      | refine L_v (opv_add64 rfl rfl (by omega)) rfl ?_
      | refine L_v (opv_addS rfl rfl (by omega)) rfl ?_
      | refine L_v (opv_add rfl rfl) rfl ?_
    refine L_v (opv_move rfl) rfl ?_
    first
      | refine L_v (opv_lenL rfl) rfl ?_
      | refine L_v (opv_lenS rfl) rfl ?_
    first
      | refine L_v ((opv_eql rfl rfl).bool_t (by omega)) rfl ?_
      | refine L_v ((opv_eql rfl rfl).bool_f (by omega)) rfl ?_
    refine L_v (opv_assign rfl) rfl ?_
    refine L_nil ?_
    refine K_then ?_
    refine J_seq ?_
    refine J_seq ?_
    refine J_region ?_
    refine L_v (opv_move rfl) rfl ?_
    refine L_v ((opv_neq rfl rfl).bool_f (by decide)) rfl ?_
    refine L_v (opv_move rfl) rfl ?_
    refine L_gon rfl rfl rfl ?_
    refine L_v (opv_move rfl) rfl ?_
    refine L_gon rfl rfl rfl ?_
    refine L_v (opv_move rfl) rfl ?_
    refine L_gon rfl rfl rfl ?_
    refine L_v (opv_neqB rfl rfl) rfl ?_
    first
      | refine L_v (opv_pick_tt rfl rfl) rfl ?_
      | refine L_v (opv_pick_ff rfl rfl) rfl ?_
      | refine L_v (opv_pick rfl rfl rfl) rfl ?_
    refine L_v (opv_move rfl) rfl ?_
    refine L_gon rfl rfl rfl ?_
    refine L_v (opv_move rfl) rfl ?_
    refine L_gon rfl rfl rfl ?_
    refine L_v (opv_move rfl) rfl ?_
    refine L_gon rfl rfl rfl ?_
    refine L_v (opv_loadS rfl) rfl ?_
    refine L_gon rfl rfl rfl ?_
    refine L_v (opv_loadS rfl) rfl ?_
    refine L_gon rfl rfl rfl ?_
    refine L_v ((opv_neqF rfl rfl (by simp [Shape, CK.sh]) (by simp [Shape, CK.sh])).bool_f (fun n => n rfl)) rfl ?_
    refine L_gon rfl rfl rfl ?_
    first
      | refine L_v (opv_pick_tt rfl rfl) rfl ?_
      | refine L_v (opv_pick_ff rfl rfl) rfl ?_
      | refine L_v (opv_pick rfl rfl rfl) rfl ?_
    first
      | refine L_v (opv_pick_tt rfl rfl) rfl ?_
      | refine L_v (opv_pick_ff rfl rfl) rfl ?_
      | refine L_v (opv_pick rfl rfl rfl) rfl ?_
    refine L_nil ?_
    refine K_then ?_
    refine J_cond_false rfl ?_
    refine J_skip ?_
    refine K_then ?_
    refine J_seq ?_
    refine J_region ?_
    refine L_v (opv_move rfl) rfl ?_
    refine L_v (opv_move rfl) rfl ?_
    first
      | refine L_v (opv_lenL rfl) rfl ?_
      | refine L_v (opv_lenS rfl) rfl ?_
    refine L_v (opv_lss rfl rfl) rfl ?_
    refine L_nil ?_
    refine K_then ?_
    refine J_cond rfl (fun h1 => ?_) (fun h1 => ?_)
    · have hkl : z.1 < xs.length := by omega
      obtain ⟨x2, hx2⟩ : ∃ x, xs[z.1]? = some x := ⟨_, List.getElem?_eq_getElem hkl⟩
      obtain ⟨b, o, rfl⟩ := hR.nonnil z.1 hkl
      refine J_seq ?_
      refine J_region ?_
      refine L_v (opv_move rfl) rfl ?_
      refine L_v (opv_move rfl) rfl ?_
      first
        | refine L_v (opv_indexAddr rfl rfl (by omega)) rfl ?_
        | refine L_v (opv_indexAddrA rfl rfl (by omega)) rfl ?_
      refine L_v (opv_loadN (vs := [.int .i64 x2.id, .bool x2.more, .int .i64 x2.off, .int .i64 x2.ttl, .int .i64 x2.proto, .int .u8 x2.s0, .int .u8 x2.s1, .int .u8 x2.s2, .int .u8 x2.s3, .int .u8 x2.d0, .int .u8 x2.d1, .int .u8 x2.d2, .int .u8 x2.d3, .string x2.data]) rfl rfl (fun j u hj => Rd.of_take (S := old W) (hR.rd b o rfl z.1 x2 j u hx2 hj))) rfl ?_
      refine L_x rfl (opx_alloc rfl) (fun b16 _ => ?_)
      refine L_x rfl (opx_store rfl rfl rfl (by simp [Value.oneCell'])) (fun _ _ => ?_)
      refine L_nil ?_
      refine K_then ?_
      refine J_seq ?_
      refine J_seq ?_
      refine J_region ?_
      first
        | refine L_v (opv_fieldAddr0 rfl) rfl ?_
        | refine L_v (opv_fieldAddr rfl) rfl ?_
      refine L_v (opv_load rfl (Rd.look rfl)) rfl ?_
      first
        | refine L_v (opv_lenL rfl) rfl ?_
        | refine L_v (opv_lenS rfl) rfl ?_
      refine L_v (opv_gtr rfl rfl) rfl ?_
      refine L_nil ?_
      refine K_then ?_
      refine J_cond rfl (fun h2 => ?_) (fun h2 => ?_)
      · refine J_seq ?_
        refine J_region ?_
        refine L_x rfl (opx_call0 (rawake_spec) rfl rfl rfl) (fun _ _ => ?_)
        refine L_emp ?_
        refine L_v (opv_assign rfl) rfl ?_
        refine L_nil ?_
        refine K_then ?_
        refine J_ret ?_
        refine K_then_ret ?_
        refine K_block_ret ?_
        refine K_then_ret ?_
        refine K_then_ret ?_
        refine K_block_ret ?_
        refine K_then_ret ?_
        exact K_ret1 rfl rfl () trivial (rfl) Ent.take
      · refine J_skip ?_
        refine K_then ?_
        refine J_seq ?_
        refine J_seq ?_
        refine J_region ?_
        first
          | refine L_v (opv_fieldAddr0 rfl) rfl ?_
          | refine L_v (opv_fieldAddr rfl) rfl ?_
        refine L_v (opv_load rfl (Rd.look rfl)) rfl ?_
        first
          | refine L_v (opv_fieldAddr0 rfl) rfl ?_
          | refine L_v (opv_fieldAddr rfl) rfl ?_
        refine L_v (opv_load rfl (Rd.look rfl)) rfl ?_
        first
          | refine L_v (opv_eql rfl rfl) rfl ?_
          | refine L_v (opv_eqlS rfl rfl) rfl ?_
          | refine L_v (opv_eqlNil rfl rfl) rfl ?_
          | refine L_v (opv_eqlB rfl rfl) rfl ?_
        refine L_nil ?_
        refine K_then ?_
        refine J_cond rfl (fun h3 => ?_) (fun h3 => ?_)
        · refine J_region ?_
          first
            | refine L_v (opv_fieldAddr0 rfl) rfl ?_
            | refine L_v (opv_fieldAddr rfl) rfl ?_
          refine L_v (opv_load rfl (Rd.look rfl)) rfl ?_
          refine L_v (opv_add rfl rfl) rfl ?_
          first
            | refine L_v (opv_fieldAddr0 rfl) rfl ?_
            | refine L_v (opv_fieldAddr rfl) rfl ?_
          refine L_x rfl (opx_store rfl rfl rfl (by simp [Value.oneCell'])) (fun _ _ => ?_)
          refine L_nil ?_
          refine K_then ?_
          refine J_region ?_
          refine L_v (opv_move rfl) rfl ?_
          refine L_v (opv_move rfl) rfl ?_
          refine L_v (opv_loadS rfl) rfl ?_
          refine L_x rfl (opx_call0 (Put_any tp 40 1000000 (z.2.2.put 40 1000000 z.1 x).2 z.1 ⟨IntKind.i64.wrap (x2.id + 1), x2.more, x2.off, x2.ttl, x2.proto, x2.s0, x2.s1, x2.s2, x2.s3, x2.d0, x2.d1, x2.d2, x2.d3, x2.data⟩ (2 * z.1 + 1) hw1.ok (by omega) (by decide) (by show x2.data.size ≤ _; omega)) rfl rfl rfl) (fun _ _ => ?_)
          refine L_nil ?_
          refine K_block ?_
          refine K_then ?_
          refine J_region ?_
          refine L_v (opv_move rfl) rfl ?_
          first
            | refine L_v (opv_add64 rfl rfl (by omega)) rfl ?_
            | refine L_v (opv_addS rfl rfl (by omega)) rfl ?_
            | refine L_v (opv_add rfl rfl) rfl ?_
          refine L_v (opv_assign rfl) rfl ?_
          refine L_nil ?_
          exact K_loop ((z.1 + 1, a', ((z.2.2.put 40 1000000 z.1 x).2.put 40 1000000 z.1 ⟨IntKind.i64.wrap (x2.id + 1), x2.more, x2.off, x2.ttl, x2.proto, x2.s0, x2.s1, x2.s2, x2.s3, x2.d0, x2.d1, x2.d2, x2.d3, x2.data⟩).2)) ⟨by dsimp only; omega, by have := hw1.other (x := ⟨IntKind.i64.wrap (x2.id + 1), x2.more, x2.off, x2.ttl, x2.proto, x2.s0, x2.s1, x2.s2, x2.s3, x2.d0, x2.d1, x2.d2, x2.d3, x2.data⟩) (ky_ne (by show IntKind.i64.wrap (x2.id + 1) ≠ p.id; rw [h3]; exact wrap_ne hid)) (by omega); exact this⟩ (by dsimp only; omega) ⟨rfl, rfl, rfl, rfl, rfl, trivial⟩ Ent.take
        · refine J_skip ?_
          refine K_then ?_
          refine J_region ?_
          refine L_v (opv_move rfl) rfl ?_
          refine L_v (opv_move rfl) rfl ?_
          refine L_v (opv_loadS rfl) rfl ?_
          refine L_x rfl (opx_call0 (Put_any tp 40 1000000 (z.2.2.put 40 1000000 z.1 x).2 z.1 x2 (2 * z.1 + 1) hw1.ok (by omega) (by decide) (by omega)) rfl rfl rfl) (fun _ _ => ?_)
          refine L_nil ?_
          refine K_block ?_
          refine K_then ?_
          refine J_region ?_
          refine L_v (opv_move rfl) rfl ?_
          first
            | refine L_v (opv_add64 rfl rfl (by omega)) rfl ?_
            | refine L_v (opv_addS rfl rfl (by omega)) rfl ?_
            | refine L_v (opv_add rfl rfl) rfl ?_
          refine L_v (opv_assign rfl) rfl ?_
          refine L_nil ?_
          exact K_loop ((z.1 + 1, a', ((z.2.2.put 40 1000000 z.1 x).2.put 40 1000000 z.1 x2).2)) ⟨by dsimp only; omega, by have := hw1.other (x := x2) (ky_ne h3) (by omega); exact this⟩ (by dsimp only; omega) ⟨rfl, rfl, rfl, rfl, rfl, trivial⟩ Ent.take
    · refine J_skip ?_
      refine K_block ?_
      refine K_then ?_
      refine J_region ?_
      refine L_v (opv_move rfl) rfl ?_
      first
        | refine L_v (opv_add64 rfl rfl (by omega)) rfl ?_
        | refine L_v (opv_addS rfl rfl (by omega)) rfl ?_
        | refine L_v (opv_add rfl rfl) rfl ?_
      refine L_v (opv_assign rfl) rfl ?_
      refine L_nil ?_
      exact K_loop ((z.1 + 1, a', (z.2.2.put 40 1000000 z.1 x).2)) ⟨by dsimp only; omega, hw1.more⟩ (by dsimp only; omega) ⟨rfl, rfl, rfl, rfl, rfl, trivial⟩ Ent.take
  · refine J_seq ?_
    refine J_seq ?_
    obtain ⟨x, a', hx1, hst, hw1⟩ := hz.step hi g2 g3 h2 ⟨hr.2.2.2, by omega, hr.2.1⟩ (by omega)
    obtain ⟨b1, o1, rfl⟩ : ∃ b o, A1 = some (ad b o) := by rcases hA1 with ⟨_, _, h, _⟩ | h; omega; exact h
    refine J_region ?_
    refine L_v (opv_move rfl) rfl ?_
    refine L_v (opv_move rfl) rfl ?_
    first
      | refine L_v (opv_lenL rfl) rfl ?_
      | refine L_v (opv_lenS rfl) rfl ?_
    first
      | refine L_v ((opv_lss rfl rfl).bool_t (by omega)) rfl ?_
      | refine L_v ((opv_lss rfl rfl).bool_f (by omega)) rfl ?_
    refine L_nil ?_
    refine K_then ?_
    refine J_cond_true rfl ?_
    refine J_skip ?_
    refine K_then ?_
    refine J_seq ?_
    refine J_block ?_
    refine J_seq ?_
    have hsp : FSpec Try.prog 32 #[.pointer (some (ad tp 0)), .int .i64 z.1, .agg [.int .i64 x.id, .bool x.more, .int .i64 x.off, .int .i64 x.ttl, .int .i64 x.proto, .int .u8 x.s0, .int .u8 x.s1, .int .u8 x.s2, .int .u8 x.s3, .int .u8 x.d0, .int .u8 x.d1, .int .u8 x.d2, .int .u8 x.d3, .string x.data].toArray] (TabP tp 40 1000000 z.2.2) (fun _ : Unit => True) (fun _ => .tuple #[.agg [.int .i64 0, .bool false, .int .i64 0, .int .i64 0, .int .i64 0, .int .u8 0, .int .u8 0, .int .u8 0, .int .u8 0, .int .u8 0, .int .u8 0, .int .u8 0, .int .u8 0, .string ⟨#[]⟩].toArray, .bool false, .int .i64 0]) (fun _ => TabP tp 40 1000000 (z.2.2.put 40 1000000 z.1 x).2) := by
        have := Put_any tp 40 1000000 z.2.2 z.1 x (2 * z.1) hz.ok (by omega) (by decide) (by have := part_le hx1; omega)
        rw [hst, if_neg (by omega)] at this
        exact this
    refine J_region ?_
    refine L_v (opv_move rfl) rfl ?_
    refine L_v (opv_move rfl) rfl ?_
    refine L_v (opv_move rfl) rfl ?_
    refine L_v (opv_move rfl) rfl ?_
    first
      | refine L_v (opv_indexAddr rfl rfl (by omega)) rfl ?_
      | refine L_v (opv_indexAddrA rfl rfl (by omega)) rfl ?_
    refine L_v (opv_loadN (vs := [.int .i64 x.id, .bool x.more, .int .i64 x.off, .int .i64 x.ttl, .int .i64 x.proto, .int .u8 x.s0, .int .u8 x.s1, .int .u8 x.s2, .int .u8 x.s3, .int .u8 x.d0, .int .u8 x.d1, .int .u8 x.d2, .int .u8 x.d3, .string x.data]) rfl rfl (fun j u hj => Rd.of_take (S := Own 32 14 (.slice (some (ad b1 o1)) (partsC p m).length c1) (partsC p m).length ((partsC p m).flatMap encPk)) ((RdS.own (m := 14) (e := 32) (c := c1) encPk_len (.inr ⟨b1, o1, rfl⟩)).rd b1 o1 rfl z.1 x j u hx1 hj))) rfl ?_
    refine L_x rfl (opx_call0 (hsp) rfl rfl rfl) (fun _ _ => ?_)
    refine L_v (opv_move rfl) rfl ?_
    first
      | refine L_v (opv_extract (v := .agg [.int .i64 p.id, .bool p.more, .int .i64 p.off, .int .i64 p.ttl, .int .i64 p.proto, .int .u8 p.s0, .int .u8 p.s1, .int .u8 p.s2, .int .u8 p.s3, .int .u8 p.d0, .int .u8 p.d1, .int .u8 p.d2, .int .u8 p.d3, .string p.data].toArray) rfl rfl) rfl ?_
      | refine L_v (opv_extract (v := .agg [.int .i64 0, .bool false, .int .i64 0, .int .i64 0, .int .i64 0, .int .u8 0, .int .u8 0, .int .u8 0, .int .u8 0, .int .u8 0, .int .u8 0, .int .u8 0, .int .u8 0, .string ⟨#[]⟩].toArray) rfl rfl) rfl ?_
    refine L_v (opv_extract rfl rfl) rfl ?_
    refine L_v (opv_extract rfl rfl) rfl ?_
    refine L_x rfl (opx_alloc rfl) (fun b12 _ => ?_)
    refine L_x rfl (opx_store rfl rfl rfl (by simp [Value.oneCell'])) (fun _ _ => ?_)
    refine L_v (opv_assign rfl) rfl ?_
    refine L_v (opv_assign rfl) rfl ?_
    refine L_nil ?_
    refine K_then ?_
    refine J_seq ?_
    refine J_region ?_
    refine L_v (opv_move rfl) rfl ?_
    first
      | refine L_v (opv_add64 rfl rfl (by omega)) rfl ?_
      | refine L_v (opv_addS rfl rfl (by omega)) rfl ?_
      | refine L_v (opv_add rfl rfl) rfl ?_
    refine L_v (opv_move rfl) rfl ?_
    first
      | refine L_v (opv_lenL rfl) rfl ?_
      | refine L_v (opv_lenS rfl) rfl ?_
    first
      | refine L_v ((opv_eql rfl rfl).bool_t (by omega)) rfl ?_
      | refine L_v ((opv_eql rfl rfl).bool_f (by omega)) rfl ?_
    refine L_v (opv_assign rfl) rfl ?_
    refine L_nil ?_
    refine K_then ?_
    refine J_seq ?_
    refine J_seq ?_
    refine J_region ?_
    refine L_v (opv_move rfl) rfl ?_
    refine L_v ((opv_neq rfl rfl).bool_f (by decide)) rfl ?_
    refine L_v (opv_move rfl) rfl ?_
    refine L_gon rfl rfl rfl ?_
    refine L_v (opv_move rfl) rfl ?_
    refine L_gon rfl rfl rfl ?_
    refine L_v (opv_move rfl) rfl ?_
    refine L_gon rfl rfl rfl ?_
    refine L_v (opv_neqB rfl rfl) rfl ?_
    first
      | refine L_v (opv_pick_tt rfl rfl) rfl ?_
      | refine L_v (opv_pick_ff rfl rfl) rfl ?_
      | refine L_v (opv_pick rfl rfl rfl) rfl ?_
    refine L_v (opv_move rfl) rfl ?_
    refine L_gon rfl rfl rfl ?_
    refine L_v (opv_move rfl) rfl ?_
    refine L_gon rfl rfl rfl ?_
    refine L_v (opv_move rfl) rfl ?_
    refine L_gskip rfl rfl rfl ?_ (fun _ h => by cases h; rfl)
    refine L_gskip rfl rfl rfl ?_ (fun _ h => by cases h; rfl)
    refine L_gskip rfl rfl rfl ?_ (fun _ h => by cases h; rfl)
    refine L_gon rfl rfl rfl ?_
    first
      | refine L_v (opv_pick_tt rfl rfl) rfl ?_
      | refine L_v (opv_pick_ff rfl rfl) rfl ?_
      | refine L_v (opv_pick rfl rfl rfl) rfl ?_
    first
      | refine L_v (opv_pick_tt rfl rfl) rfl ?_
      | refine L_v (opv_pick_ff rfl rfl) rfl ?_
      | refine L_v (opv_pick rfl rfl rfl) rfl ?_
    refine L_nil ?_
    refine K_then ?_
    refine J_cond_false rfl ?_
    refine J_skip ?_
    refine K_then ?_
    refine J_seq ?_
    refine J_region ?_
    refine L_v (opv_move rfl) rfl ?_
    refine L_v (opv_move rfl) rfl ?_
    first
      | refine L_v (opv_lenL rfl) rfl ?_
      | refine L_v (opv_lenS rfl) rfl ?_
    refine L_v (opv_lss rfl rfl) rfl ?_
    refine L_nil ?_
    refine K_then ?_
    refine J_cond rfl (fun h4 => ?_) (fun h4 => ?_)
    · have hkl : z.1 < xs.length := by omega
      obtain ⟨x2, hx2⟩ : ∃ x, xs[z.1]? = some x := ⟨_, List.getElem?_eq_getElem hkl⟩
      obtain ⟨b, o, rfl⟩ := hR.nonnil z.1 hkl
      refine J_seq ?_
      refine J_region ?_
      refine L_v (opv_move rfl) rfl ?_
      refine L_v (opv_move rfl) rfl ?_
      first
        | refine L_v (opv_indexAddr rfl rfl (by omega)) rfl ?_
        | refine L_v (opv_indexAddrA rfl rfl (by omega)) rfl ?_
      refine L_v (opv_loadN (vs := [.int .i64 x2.id, .bool x2.more, .int .i64 x2.off, .int .i64 x2.ttl, .int .i64 x2.proto, .int .u8 x2.s0, .int .u8 x2.s1, .int .u8 x2.s2, .int .u8 x2.s3, .int .u8 x2.d0, .int .u8 x2.d1, .int .u8 x2.d2, .int .u8 x2.d3, .string x2.data]) rfl rfl (fun j u hj => Rd.of_take (S := old W) (hR.rd b o rfl z.1 x2 j u hx2 hj))) rfl ?_
      refine L_x rfl (opx_alloc rfl) (fun b16 _ => ?_)
      refine L_x rfl (opx_store rfl rfl rfl (by simp [Value.oneCell'])) (fun _ _ => ?_)
      refine L_nil ?_
      refine K_then ?_
      refine J_seq ?_
      refine J_seq ?_
      refine J_region ?_
      first
        | refine L_v (opv_fieldAddr0 rfl) rfl ?_
        | refine L_v (opv_fieldAddr rfl) rfl ?_
      refine L_v (opv_load rfl (Rd.look rfl)) rfl ?_
      first
        | refine L_v (opv_lenL rfl) rfl ?_
        | refine L_v (opv_lenS rfl) rfl ?_
      refine L_v (opv_gtr rfl rfl) rfl ?_
      refine L_nil ?_
      refine K_then ?_
      refine J_cond rfl (fun h5 => ?_) (fun h5 => ?_)
      · refine J_seq ?_
        refine J_region ?_
        refine L_x rfl (opx_call0 (rawake_spec) rfl rfl rfl) (fun _ _ => ?_)
        refine L_emp ?_
        refine L_v (opv_assign rfl) rfl ?_
        refine L_nil ?_
        refine K_then ?_
        refine J_ret ?_
        refine K_then_ret ?_
        refine K_block_ret ?_
        refine K_then_ret ?_
        refine K_then_ret ?_
        refine K_block_ret ?_
        refine K_then_ret ?_
        exact K_ret1 rfl rfl () trivial (rfl) Ent.take
      · refine J_skip ?_
        refine K_then ?_
        refine J_seq ?_
        refine J_seq ?_
        refine J_region ?_
        first
          | refine L_v (opv_fieldAddr0 rfl) rfl ?_
          | refine L_v (opv_fieldAddr rfl) rfl ?_
        refine L_v (opv_load rfl (Rd.look rfl)) rfl ?_
        first
          | refine L_v (opv_fieldAddr0 rfl) rfl ?_
          | refine L_v (opv_fieldAddr rfl) rfl ?_
        refine L_v (opv_load rfl (Rd.look rfl)) rfl ?_
        first
          | refine L_v (opv_eql rfl rfl) rfl ?_
          | refine L_v (opv_eqlS rfl rfl) rfl ?_
          | refine L_v (opv_eqlNil rfl rfl) rfl ?_
          | refine L_v (opv_eqlB rfl rfl) rfl ?_
        refine L_nil ?_
        refine K_then ?_
        refine J_cond rfl (fun h6 => ?_) (fun h6 => ?_)
        · refine J_region ?_
          first
            | refine L_v (opv_fieldAddr0 rfl) rfl ?_
            | refine L_v (opv_fieldAddr rfl) rfl ?_
          refine L_v (opv_load rfl (Rd.look rfl)) rfl ?_
          refine L_v (opv_add rfl rfl) rfl ?_
          first
            | refine L_v (opv_fieldAddr0 rfl) rfl ?_
            | refine L_v (opv_fieldAddr rfl) rfl ?_
          refine L_x rfl (opx_store rfl rfl rfl (by simp [Value.oneCell'])) (fun _ _ => ?_)
          refine L_nil ?_
          refine K_then ?_
          refine J_region ?_
          refine L_v (opv_move rfl) rfl ?_
          refine L_v (opv_move rfl) rfl ?_
          refine L_v (opv_loadS rfl) rfl ?_
          refine L_x rfl (opx_call0 (Put_any tp 40 1000000 (z.2.2.put 40 1000000 z.1 x).2 z.1 ⟨IntKind.i64.wrap (x2.id + 1), x2.more, x2.off, x2.ttl, x2.proto, x2.s0, x2.s1, x2.s2, x2.s3, x2.d0, x2.d1, x2.d2, x2.d3, x2.data⟩ (2 * z.1 + 1) hw1.ok (by omega) (by decide) (by show x2.data.size ≤ _; omega)) rfl rfl rfl) (fun _ _ => ?_)
          refine L_nil ?_
          refine K_block ?_
          refine K_then ?_
          refine J_region ?_
          refine L_v (opv_move rfl) rfl ?_
          first
            | refine L_v (opv_add64 rfl rfl (by omega)) rfl ?_
            | refine L_v (opv_addS rfl rfl (by omega)) rfl ?_
            | refine L_v (opv_add rfl rfl) rfl ?_
          refine L_v (opv_assign rfl) rfl ?_
          refine L_nil ?_
          exact K_loop ((z.1 + 1, a', ((z.2.2.put 40 1000000 z.1 x).2.put 40 1000000 z.1 ⟨IntKind.i64.wrap (x2.id + 1), x2.more, x2.off, x2.ttl, x2.proto, x2.s0, x2.s1, x2.s2, x2.s3, x2.d0, x2.d1, x2.d2, x2.d3, x2.data⟩).2)) ⟨by dsimp only; omega, by have := hw1.other (x := ⟨IntKind.i64.wrap (x2.id + 1), x2.more, x2.off, x2.ttl, x2.proto, x2.s0, x2.s1, x2.s2, x2.s3, x2.d0, x2.d1, x2.d2, x2.d3, x2.data⟩) (ky_ne (by show IntKind.i64.wrap (x2.id + 1) ≠ p.id; rw [h6]; exact wrap_ne hid)) (by omega); exact this⟩ (by dsimp only; omega) ⟨rfl, rfl, rfl, rfl, rfl, trivial⟩ Ent.take
        · refine J_skip ?_
          refine K_then ?_
          refine J_region ?_
          refine L_v (opv_move rfl) rfl ?_
          refine L_v (opv_move rfl) rfl ?_
          refine L_v (opv_loadS rfl) rfl ?_
          refine L_x rfl (opx_call0 (Put_any tp 40 1000000 (z.2.2.put 40 1000000 z.1 x).2 z.1 x2 (2 * z.1 + 1) hw1.ok (by omega) (by decide) (by omega)) rfl rfl rfl) (fun _ _ => ?_)
          refine L_nil ?_
          refine K_block ?_
          refine K_then ?_
          refine J_region ?_
          refine L_v (opv_move rfl) rfl ?_
          first
            | refine L_v (opv_add64 rfl rfl (by omega)) rfl ?_
            | refine L_v (opv_addS rfl rfl (by omega)) rfl ?_
            | refine L_v (opv_add rfl rfl) rfl ?_
          refine L_v (opv_assign rfl) rfl ?_
          refine L_nil ?_
          exact K_loop ((z.1 + 1, a', ((z.2.2.put 40 1000000 z.1 x).2.put 40 1000000 z.1 x2).2)) ⟨by dsimp only; omega, by have := hw1.other (x := x2) (ky_ne h6) (by omega); exact this⟩ (by dsimp only; omega) ⟨rfl, rfl, rfl, rfl, rfl, trivial⟩ Ent.take
    · refine J_skip ?_
      refine K_block ?_
      refine K_then ?_
      refine J_region ?_
      refine L_v (opv_move rfl) rfl ?_
      first
        | refine L_v (opv_add64 rfl rfl (by omega)) rfl ?_
        | refine L_v (opv_addS rfl rfl (by omega)) rfl ?_
        | refine L_v (opv_add rfl rfl) rfl ?_
      refine L_v (opv_assign rfl) rfl ?_
      refine L_nil ?_
      exact K_loop ((z.1 + 1, a', (z.2.2.put 40 1000000 z.1 x).2)) ⟨by dsimp only; omega, hw1.more⟩ (by dsimp only; omega) ⟨rfl, rfl, rfl, rfl, rfl, trivial⟩ Ent.take


theorem ReasmWhole_law (W : World) (p : Pk) (m : Int) (A : Option Addr) (len c : Nat) (xs : List Pk) (ok : okPk p) (h : ArrIn W encPk 14 A len xs) (hl : len ≤ c) (hc : c ≤ maxLen) : FSpec Try.prog 12 #[.agg (encPk p).toArray, .int .i64 m, .slice A len c] (old W) (fun _ : Unit => True) (fun _ => .bool true) (fun _ => old W) := by
  have e := h.1
  subst e
  have hn : xs.length ≤ 9223372036854775807 := by unfold maxLen at hc; omega
  by_cases hb : codeS p m = 0 ∧ p.data.size ≤ 8200 ∧ xs.length ≤ 20
  · exact RH_ok W A c xs p m (RdS.old h) hn ok.1 ok.a hb.1 hb.2.1 hb.2.2
  · exact RH_bad W A c xs p m (RdS.old h) hn hb

end Go.Proofs.Ytjpbpfihacfndaa
namespace Go.Proofs.Ytjpbpfihacfndaa.reasmWhole
open Go.ChangeShapes Go.WideShapes Go.ChangeAt Go.RowKit Go.SLA
open Go.ChangeMaps (open_string shut_string)
set_option linter.unusedVariables false
theorem own : ownKnob Try.prog.godebug = none := by kernel_rfl
theorem laidOut : laidOutB Try.prog = true := by kernel_rfl
set_option maxRecDepth 100000 in
theorem lifted (os : Os) (started : os.Started) (H : Type) (enc : TypeId × Value → H) :
    ReturnsInHanded {} Try.checked os 12 .any (Rows.reasmWholeSpec.pre6 enc Try.prog Try.f12 Rows.reasmWholeRow.domain false) (Rows.reasmWholeSpec.post enc Try.prog Try.f12 false true false false) := by
  refine returnsInHanded_of_change_sized (C := Try.checked) own started (by kernel_rfl) Try.func12
    (ChangeSpec.witness6 (enc := enc) (C := Try.checked) false ⟨#[], #[.agg (encPk pkz).toArray, .int .i64 0, .slice none 0 0], []⟩ 8 (by kernel_rfl) (by kernel_rfl) (by kernel_rfl) (by kernel_rfl)) ?_
  intro W base args ds gs before hval0 hW hcnd hsz0 _
  have hsz : (DataW.weightsEach Try.prog (Try.f12.params.toList ++ Rows.reasmWholeSpec.plain.varTypes Try.prog) (ds ++ gs)).all (· ≤ reachBytes) = true := hsz0
  have hval : ∀ (j : Nat) t v, Try.f12.params[j]? = some t → args[j]? = some v → Value.okWide Try.prog W .any base t v := hval0
  have hW' := hW
  obtain ⟨p, q, hA0, hV, rfl, hfz, hnd⟩ := hW
  have hA : DataW.TrodAll enc Try.prog W 0 (fun _ => true) true Try.f12.params.toList args.toList ds p := hA0
  rw [Try.params12] at hA hval hsz
  obtain ⟨v0, vs0, d0, ds0, p0, q0, hargs, rfl, rfl, h0, r0⟩ := trodAll_cons hA
  obtain ⟨v1, vs1, d1, ds1, p1, q1, rfl, rfl, rfl, h1, r1⟩ := trodAll_cons r0
  obtain ⟨v2, vs2, d2, ds2, p2, q2, rfl, rfl, rfl, h2, r2⟩ := trodAll_cons r1
  obtain ⟨rfl, rfl, rfl⟩ := trodAll_nil r2
  obtain rfl : args = #[v0, v1, v2] := by cases args; simp_all
  obtain ⟨rfl, rfl⟩ := trodVars_none hV
  have k0 := h0
  have lt0 : ∀ x ∈ p0, x.block < W.heap.size := by obtain ⟨m, hm⟩ := k0; exact DataW.trod_lt m _ _ _ hm
  obtain ⟨l0, rfl, g0⟩ := open_flat (D := 5) (ks := ksPk) (by kernel_rfl) (by kernel_rfl) (hval 0 32 v0 rfl rfl) h0
  obtain ⟨x0, rfl, ok0⟩ := decPk l0 g0
  have k1 := h1
  have lt1 : ∀ x ∈ p1, x.block < W.heap.size := by obtain ⟨m, hm⟩ := k1; exact DataW.trod_lt m _ _ _ hm
  obtain ⟨a1, rfl, rfl, rfl, w1⟩ := open_int Try.underlying3 (hval 1 3 v1 rfl rfl) h1
  have k2 := h2
  have lt2 : ∀ x ∈ p2, x.block < W.heap.size := by obtain ⟨m, hm⟩ := k2; exact DataW.trod_lt m _ _ _ hm
  obtain ⟨A2, len2, cap2, xs2, rfl, hl2, hc2, harr2, hok2⟩ := open_arr (D := 5) (ks := ksPk) (en := encPk) (ok := okPk) Try.underlying28 (by kernel_rfl) (by kernel_rfl) (by decide) (fun cs h => decPk cs h) (hval 2 28 v2 rfl rfl) h2
  clear hA0 hval0 hsz0 hsz
  refine (FSpec.law (ReasmWhole_law W x0 a1 A2 len2 cap2 xs2 ok0 harr2 hl2 hc2)).mono fun e W' ⟨he, bel⟩ => ?_
  subst he
  exact ⟨_, rfl, _, _, _, [], _, [], hW', trodAll_mk1 (shut_bool Try.underlying4 _), (trodAll_cons_mk (Below.trod laidOut (by kernel_rfl) (of_decide_eq_true (by kernel_rfl)) k0 bel lt0) (trodAll_cons_mk (Below.trod laidOut (by kernel_rfl) (of_decide_eq_true (by kernel_rfl)) k1 bel lt1) (trodAll_cons_mk (Below.trod laidOut (by kernel_rfl) (of_decide_eq_true (by kernel_rfl)) k2 bel lt2) trodAll_mk0))), rfl, bel.frame _, fun h => by cases h⟩
theorem over : Rows.reasmWholeRow.holds Try.pinned (OpenSpec.ofChange Rows.reasmWholeSpec) :=
  OpenClaim.holds_of_wide 12 Try.f12 rfl rfl rfl rfl rfl rfl rfl ⟨rfl, rfl, rfl, rfl, rfl⟩ rfl rfl rfl rfl rfl (by kernel_rfl) Try.func12 (by kernel_rfl)
    (of_decide_eq_true (by kernel_rfl)) (by unfold Func.isWrapper; first | (rw [if_pos (by decide +kernel)]; kernel_rfl) | (rw [if_neg (by decide +kernel)]; exact ⟨rfl, rfl⟩))
    (fun os started H enc _ => lifted os started H enc)
end Go.Proofs.Ytjpbpfihacfndaa.reasmWhole
namespace Go.Proofs.Ytjpbpfihacfndaa
theorem reasmWhole_holds : Rows.ReasmWholeSaid := reasmWhole.over
#print axioms reasmWhole_holds
end Go.Proofs.Ytjpbpfihacfndaa
namespace Go.Proofs.Ytjpbpfihacfndaa
open Go.SLA
end Go.Proofs.Ytjpbpfihacfndaa
