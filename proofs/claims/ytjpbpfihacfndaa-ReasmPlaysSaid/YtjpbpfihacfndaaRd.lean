/- Contracts of functions of the package reasm, each proved by a walk over its code; they are used by the texts that import this one. -/
import Derived.Test.YtjpbpfihacfndaaRc
import Derived.Test.YtjpbpfihacfndaaH
namespace Go.Proofs.Ytjpbpfihacfndaa
open Go.SLA
set_option maxRecDepth 100000
set_option linter.unusedVariables false
set_option linter.unusedSimpArgs false
attribute [local irreducible] J L K QL Rg FSpec OpV OpX Rd Back

theorem Src.own {P R : HProp} {e m len c : Nat} {b o : Nat} {l : List Value} [h : Take P (Own e m (.slice (some (ad b o)) len c) len l) R] : SLA.Src P (.slice (some (ad b o)) len c) len l :=
  .inr ⟨b, o, c, rfl, fun j u hj => Rd.of_take (S := Own e m (.slice (some (ad b o)) len c) len l) (Rd.own hj)⟩
theorem key_specV (p : Pk) : FSpec Try.prog 52 #[.agg [.int .i64 p.id, .bool p.more, .int .i64 p.off, .int .i64 p.ttl, .int .i64 p.proto, .int .u8 p.s0, .int .u8 p.s1, .int .u8 p.s2, .int .u8 p.s3, .int .u8 p.d0, .int .u8 p.d1, .int .u8 p.d2, .int .u8 p.d3, .string p.data].toArray] emp (fun _ : Unit => True) (fun _ => .agg [.int .u8 (kyOf p).s0, .int .u8 (kyOf p).s1, .int .u8 (kyOf p).s2, .int .u8 (kyOf p).s3, .int .u8 (kyOf p).d0, .int .u8 (kyOf p).d1, .int .u8 (kyOf p).d2, .int .u8 (kyOf p).d3, .int .i64 (kyOf p).proto, .int .i64 (kyOf p).id].toArray) (fun _ => emp) := key_spec p
/-- Where a key's block is. -/
def ptrOf (es : List (Bg × Nat)) (k : Ky) : Option Addr := (es.find? fun e => decide (e.1.k = k)).map fun e => ad e.2 0
theorem MapIs.ptr {es : List (Bg × Nat)} {f : List Value → Option Value} (h : MapIs es f) (k : Ky) : (f (encKy k)).getD (.pointer none) = .pointer (ptrOf es k) := by
  rw [h.at_]
  unfold ptrOf
  cases es.find? fun e => decide (e.1.k = k) <;> rfl
theorem ptrOf_some {es : List (Bg × Nat)} {k : Ky} : (ptrOf es k).isSome = true ↔ k ∈ keysOf (es.map (·.1)) := by
  unfold ptrOf keysOf
  rw [Option.isSome_map, List.find?_isSome, List.map_map]
  simp only [decide_eq_true_eq, List.mem_map, Function.comp]
theorem begs_filter (q : Bg × Nat → Bool) : ∀ es : List (Bg × Nat), Ent (begs es) (begs (es.filter q))
  | [] => Ent.refl _
  | e :: es => by
    rw [List.filter_cons]
    split
    · exact Ent.frame_left (begs_filter q es) _
    · exact Ent.trans Ent.drop (begs_filter q es)
/-- A packet of a key is given up, if one is begun. -/
def TS.free (T : TS) (k : Ky) : TS := if k ∈ keysOf T.q then ⟨wob T.q k, T.now, T.dr + 1⟩ else T
/-- A packet is begun: what that answers, and what is then. -/
def TS.begn (T : TS) (m : Int) (pk : Pk) : Int × TS :=
  if sndC pk 0 ≠ 0 then (sndC pk 0, T.free (kyOf pk)) else if m ≤ ((T.free (kyOf pk)).q.length : Int) then (22, T.free (kyOf pk)) else (0, ⟨(T.free (kyOf pk)).q ++ [⟨kyOf pk, (T.free (kyOf pk)).now, pk.data⟩], (T.free (kyOf pk)).now, (T.free (kyOf pk)).dr⟩)
theorem wob_sub (q : List Bg) (k : Ky) : (wob q k).Sublist q := List.filter_sublist
theorem mem_wob {q : List Bg} {k : Ky} : k ∉ keysOf (wob q k) := by
  intro h
  obtain ⟨b, hb, e⟩ := List.mem_map.1 h
  have := (List.mem_filter.1 hb).2
  simp [e] at this
theorem wob_lt {q : List Bg} {k : Ky} (h : k ∈ keysOf q) : (wob q k).length + 1 ≤ q.length := by
  obtain ⟨b, hb, e⟩ := List.mem_map.1 h
  have := List.length_filter_lt_length_iff_exists (p := fun b : Bg => !decide (b.k = k)) (l := q)
  have h2 := this.2 ⟨b, hb, by simp [e]⟩
  unfold wob
  omega
theorem free_not {T : TS} {k : Ky} : k ∉ keysOf (T.free k).q := by
  unfold TS.free
  split
  · exact mem_wob
  · assumption
theorem TOk.free {n : Nat} {T : TS} (h : TOk n T) (k : Ky) : TOk n (T.free k) := by
  unfold TS.free
  split
  · rename_i hk
    have hl := wob_lt hk
    have hs := wob_sub T.q k
    have hd := h.dr
    have hn := h.n
    exact ⟨h.now, fun b hb => h.bg b (hs.subset hb), h.nd.sublist (hs.map _), by dsimp only; omega, by dsimp only; omega⟩
  · exact h
theorem snd_size {pk : Pk} {a : Nat} (h : sndC pk a = 0) : a + pk.data.size ≤ 8200 := by
  unfold sndC at h
  split at h
  · cases h
  · split at h
    · cases h
    · split at h
      · cases h
      · omega

theorem Clone_nil (e : Unit) : FSpec Try.prog 58 #[.slice none 0 0] (emp) (fun _ : Unit => True) (fun _ => .slice none 0 0) (fun _ => emp) := by
  refine FSpec.enter' Try.func58 rfl Try.ntmps58 rfl fun σ F => ?_
  refine J_seq ?_
  refine J_region ?_
  refine L_v (opv_assign rfl) rfl ?_
  refine L_nil ?_
  refine K_then ?_
  refine J_seq ?_
  refine J_seq ?_
  refine J_region ?_
  refine L_v (opv_move rfl) rfl ?_
  refine L_v (opv_eqlNilL rfl rfl) rfl ?_
  refine L_nil ?_
  refine K_then ?_
  refine J_cond_true rfl ?_
  refine J_seq ?_
  refine J_region ?_
  refine L_v (opv_assign rfl) rfl ?_
  refine L_nil ?_
  refine K_then ?_
  refine J_ret ?_
  refine K_then_ret ?_
  exact K_ret1 rfl rfl () trivial (rfl) (Ent.refl _)

theorem Clone_some (b o c : Nat) (L : List Ky) (hL : L.length ≤ 1000000) : FSpec Try.prog 58 #[.slice (some (ad b o)) L.length c] (Own 70 10 (.slice (some (ad b o)) L.length c) L.length (flatK L)) (fun z : Option Addr × Nat => True) (fun z => .slice z.1 L.length z.2) (fun z => (sep (Own 70 10 (.slice (some (ad b o)) L.length c) L.length (flatK L)) (Own 70 10 (.slice z.1 L.length z.2) L.length (flatK L)))) := by
  refine FSpec.enter' Try.func58 rfl Try.ntmps58 rfl fun σ F => ?_
  refine J_seq ?_
  refine J_region ?_
  refine L_v (opv_assign rfl) rfl ?_
  refine L_nil ?_
  refine K_then ?_
  refine J_seq ?_
  refine J_seq ?_
  refine J_region ?_
  refine L_v (opv_move rfl) rfl ?_
  refine L_v (opv_eqlNilL rfl rfl) rfl ?_
  refine L_nil ?_
  refine K_then ?_
  refine J_cond_false rfl ?_
  refine J_skip ?_
  refine K_then ?_
  refine J_seq ?_
  refine J_region ?_
  refine L_x rfl (opx_buildSlice0 (m := 10) rfl) (fun b5 _ => ?_)
  refine L_v (opv_move rfl) rfl ?_
  refine L_x rfl (opx_append (m := 10) (B := 24) rfl rfl (Src.own (e := 70) (m := 10) (len := L.length) (c := c) (l := flatK L)) rfl (by omega) (flatK_len L) (fun u hu => by obtain ⟨x, _, hx⟩ := List.mem_flatMap.1 hu; exact encKy_one x u hx) (by unfold maxLen; omega) (by omega) rfl) (fun y7 _ => ?_)
  refine L_v (opv_assign rfl) rfl ?_
  refine L_nil ?_
  refine K_then ?_
  refine J_ret ?_
  rw [Nat.zero_add, List.nil_append]
  exact K_ret1 rfl rfl y7 trivial rfl (Ent.take (Q := (sep ((sep (Own 70 10 (.slice (some (ad b o)) L.length c) L.length (flatK L)) (Own 70 10 (.slice y7.1 L.length y7.2) L.length (flatK L)))) (F))))

theorem Clone_any (A : Option Addr) (c : Nat) (L : List Ky) (hL : L.length ≤ 1000000) : FSpec Try.prog 58 #[.slice A L.length c] (Own 70 10 (.slice A L.length c) L.length (flatK L)) (fun _ : Option Addr × Nat => True) (fun z => .slice z.1 L.length z.2) (fun z => (sep (Own 70 10 (.slice A L.length c) L.length (flatK L)) (Own 70 10 (.slice z.1 L.length z.2) L.length (flatK L)))) := by
  have key : ∀ σ w F, Sat σ w (sep (Own 70 10 (.slice A L.length c) L.length (flatK L)) (F)) → (A = none ∧ c = 0 ∧ L = []) ∨ ∃ b o, A = some (ad b o) := fun σ w F h => by
    rcases own_nonnil h with ⟨h1, h2, h3, _⟩ | h
    · exact .inl ⟨h1, h2, List.eq_nil_of_length_eq_zero h3⟩
    · exact .inr h
  unfold FSpec
  intro σ w F hs
  rcases key σ w F hs with ⟨rfl, rfl, rfl⟩ | ⟨b, o, rfl⟩
  · have h2 := ((Clone_nil ()).frame (Own 70 10 (.slice none ([] : List Ky).length 0) ([] : List Ky).length (flatK ([] : List Ky)))).conseq (X := Unit) (Y := Option Addr × Nat) (P := Own 70 10 (.slice none ([] : List Ky).length 0) ([] : List Ky).length (flatK ([] : List Ky))) (φ := fun _ => True) (val := fun z => .slice z.1 ([] : List Ky).length z.2) (Qo := fun z => (sep (Own 70 10 (.slice none ([] : List Ky).length 0) ([] : List Ky).length (flatK ([] : List Ky))) (Own 70 10 (.slice z.1 ([] : List Ky).length z.2) ([] : List Ky).length (flatK ([] : List Ky))))) (Ent.of (emp_sep _).symm) fun _ _ => ⟨(none, 0), trivial, rfl, Ent.trans ((Own.nil 70 10).frame _) (Ent.of (sep_comm _ _))⟩
    unfold FSpec at h2
    exact h2 σ w F hs
  · have h2 := Clone_some b o c L hL
    unfold FSpec at h2
    exact h2 σ w F hs

theorem Keys_nil  : FSpec Try.prog 34 #[.pointer none] (emp) (fun _ : Unit => True) (fun _ => .slice none 0 0) (fun _ => emp) := by
  refine FSpec.enter' Try.func34 rfl Try.ntmps34 rfl fun σ F => ?_
  refine J_seq ?_
  refine J_region ?_
  refine L_v (opv_assign rfl) rfl ?_
  refine L_nil ?_
  refine K_then ?_
  refine J_seq ?_
  refine J_seq ?_
  refine J_region ?_
  refine L_v (opv_move rfl) rfl ?_
  first
    | refine L_v (opv_eql rfl rfl) rfl ?_
    | refine L_v (opv_eqlS rfl rfl) rfl ?_
    | refine L_v (opv_eqlNil rfl rfl) rfl ?_
    | refine L_v (opv_eqlB rfl rfl) rfl ?_
  refine L_nil ?_
  refine K_then ?_
  refine J_cond_true rfl ?_
  refine J_seq ?_
  refine J_region ?_
  refine L_v (opv_assign rfl) rfl ?_
  refine L_nil ?_
  refine K_then ?_
  refine J_ret ?_
  refine K_then_ret ?_
  exact K_ret1 rfl rfl () trivial (rfl) (Ent.refl _)

theorem Keys_spec (tp : Nat) (m wt : Int) (T : TS) (hL : T.q.length ≤ 1000000) : FSpec Try.prog 34 #[.pointer (some (ad tp 0))] (TabP tp m wt T) (fun z : Option Addr × Nat => True) (fun z => .slice z.1 (keysOf T.q).length z.2) (fun z => (sep (TabP tp m wt T) (Own 70 10 (.slice z.1 (keysOf T.q).length z.2) (keysOf T.q).length (flatK (keysOf T.q))))) := by
  refine FSpec.enter' Try.func34 rfl Try.ntmps34 rfl fun σ F => ?_
  refine J_pre _ _ (fun w hs => TabP.sat hs) fun x hx => ?_
  obtain ⟨⟨hx1, hx2⟩, hx3⟩ := hx
  refine J_seq ?_
  refine J_region ?_
  refine L_v (opv_assign rfl) rfl ?_
  refine L_nil ?_
  refine K_then ?_
  refine J_seq ?_
  refine J_seq ?_
  refine J_region ?_
  refine L_v (opv_move rfl) rfl ?_
  first
    | refine L_v (opv_eql rfl rfl) rfl ?_
    | refine L_v (opv_eqlS rfl rfl) rfl ?_
    | refine L_v (opv_eqlNil rfl rfl) rfl ?_
    | refine L_v (opv_eqlB rfl rfl) rfl ?_
  refine L_nil ?_
  refine K_then ?_
  refine J_cond_false rfl ?_
  refine J_skip ?_
  refine K_then ?_
  refine J_seq ?_
  refine J_region ?_
  refine L_v (opv_move rfl) rfl ?_
  refine L_v (opv_nilCheck rfl) rfl ?_
  first
    | refine L_v (opv_fieldAddr0 rfl) rfl ?_
    | refine L_v (opv_fieldAddr rfl) rfl ?_
  refine L_v (opv_load rfl (Rd.look rfl)) rfl ?_
  refine L_x rfl (opx_call0 (Clone_any x.2.1.1 x.2.1.2 (keysOf T.q) (by rw [keysOf_len]; exact hL)) rfl rfl rfl) (fun z _ => ?_)
  refine L_v (opv_assign rfl) rfl ?_
  refine L_nil ?_
  refine K_then ?_
  refine J_ret ?_
  exact K_ret1 rfl rfl z trivial rfl (Ent.trans (Ent.take (Q := (sep (cel tp [.map (some x.1), .slice x.2.1.1 (keysOf T.q).length x.2.1.2, .int .i64 m, .int .i64 wt, .int .i64 T.now, .int .i64 T.dr] 99) (sep (mapp x.1 ksKy x.2.2.2) (sep (Own 70 10 (.slice x.2.1.1 (keysOf T.q).length x.2.1.2) (keysOf T.q).length (flatK (keysOf T.q))) (sep (begs x.2.2.1) (sep (Own 70 10 (.slice z.1 (keysOf T.q).length z.2) (keysOf T.q).length (flatK (keysOf T.q))) (F)))))))) (Ent.trans (TabP.fold x.1 x.2.1 x.2.2.1 x.2.2.2 hx1 hx2) (Ent.of (sep_assoc _ _ _).symm)))


theorem begn_bad {T : TS} {m : Int} {pk : Pk} (h : sndC pk 0 ≠ 0) : T.begn m pk = (sndC pk 0, T.free (kyOf pk)) := if_pos h
theorem begn_full {T : TS} {m : Int} {pk : Pk} (h : sndC pk 0 = 0) (h2 : m ≤ ((T.free (kyOf pk)).q.length : Int)) : T.begn m pk = (22, T.free (kyOf pk)) := by unfold TS.begn; rw [if_neg (fun n => n h), if_pos h2]
theorem begn_ok {T : TS} {m : Int} {pk : Pk} (h : sndC pk 0 = 0) (h2 : ¬ m ≤ ((T.free (kyOf pk)).q.length : Int)) : T.begn m pk = (0, ⟨(T.free (kyOf pk)).q ++ [⟨kyOf pk, (T.free (kyOf pk)).now, pk.data⟩], (T.free (kyOf pk)).now, (T.free (kyOf pk)).dr⟩) := by unfold TS.begn; rw [if_neg (fun n => n h), if_neg h2]

set_option maxHeartbeats 800000 in
theorem begin_spec (tp : Nat) (m wt : Int) (T : TS) (pk : Pk) (n : Nat) (hT : TOk n T) (hn : n ≤ 1000000) (hd : pk.data.size ≤ 140737488351232) : FSpec Try.prog 51 #[.pointer (some (ad tp 0)), .agg [.int .i64 pk.id, .bool pk.more, .int .i64 pk.off, .int .i64 pk.ttl, .int .i64 pk.proto, .int .u8 pk.s0, .int .u8 pk.s1, .int .u8 pk.s2, .int .u8 pk.s3, .int .u8 pk.d0, .int .u8 pk.d1, .int .u8 pk.d2, .int .u8 pk.d3, .string pk.data].toArray] (TabP tp m wt T) (fun _ : Unit => True) (fun _ => .int .i64 (T.begn m pk).1) (fun _ => TabP tp m wt (T.begn m pk).2) := by
  refine FSpec.enter' Try.func51 rfl Try.ntmps51 rfl fun σ F => ?_
  refine J_seq ?_
  refine J_region ?_
  refine L_x rfl (opx_box (l := [.int .i64 pk.id, .bool pk.more, .int .i64 pk.off, .int .i64 pk.ttl, .int .i64 pk.proto, .int .u8 pk.s0, .int .u8 pk.s1, .int .u8 pk.s2, .int .u8 pk.s3, .int .u8 pk.d0, .int .u8 pk.d1, .int .u8 pk.d2, .int .u8 pk.d3, .string pk.data]) rfl rfl) (fun b3 _ => ?_)
  refine L_v (opv_assign rfl) rfl ?_
  refine L_nil ?_
  refine K_then ?_
  refine J_seq ?_
  refine J_region ?_
  refine L_v (opv_loadS rfl) rfl ?_
  refine L_x rfl (opx_call0 (key_specV pk) rfl rfl rfl) (fun _ _ => ?_)
  refine L_emp ?_
  refine L_x rfl (opx_alloc rfl) (fun b5 _ => ?_)
  refine L_x rfl (opx_store rfl rfl rfl (by simp [Value.oneCell'])) (fun _ _ => ?_)
  refine L_nil ?_
  refine K_then ?_
  refine J_cut (X := Unit) (fun _ => [(0, .pointer (some (ad tp 0))), (3, .pointer (some (ad b3 0))), (5, .pointer (some (ad b5 0)))]) (fun _ => (sep (TabP tp m wt (T.free (kyOf pk))) (sep (cel b5 [.int .u8 (kyOf pk).s0, .int .u8 (kyOf pk).s1, .int .u8 (kyOf pk).s2, .int .u8 (kyOf pk).s3, .int .u8 (kyOf pk).d0, .int .u8 (kyOf pk).d1, .int .u8 (kyOf pk).d2, .int .u8 (kyOf pk).d3, .int .i64 (kyOf pk).proto, .int .i64 (kyOf pk).id] 70) (sep (cel b3 [.int .i64 pk.id, .bool pk.more, .int .i64 pk.off, .int .i64 pk.ttl, .int .i64 pk.proto, .int .u8 pk.s0, .int .u8 pk.s1, .int .u8 pk.s2, .int .u8 pk.s3, .int .u8 pk.d0, .int .u8 pk.d1, .int .u8 pk.d2, .int .u8 pk.d3, .string pk.data] 32) (F))))) (fun _ => True) ?_ (fun _ _ => ?_)
  · refine J_seq ?_
    refine J_eq (sep (TabP tp m wt T) (sep (cel b5 [.int .u8 (kyOf pk).s0, .int .u8 (kyOf pk).s1, .int .u8 (kyOf pk).s2, .int .u8 (kyOf pk).s3, .int .u8 (kyOf pk).d0, .int .u8 (kyOf pk).d1, .int .u8 (kyOf pk).d2, .int .u8 (kyOf pk).d3, .int .i64 (kyOf pk).proto, .int .i64 (kyOf pk).id] 70) (sep (cel b3 [.int .i64 pk.id, .bool pk.more, .int .i64 pk.off, .int .i64 pk.ttl, .int .i64 pk.proto, .int .u8 pk.s0, .int .u8 pk.s1, .int .u8 pk.s2, .int .u8 pk.s3, .int .u8 pk.d0, .int .u8 pk.d1, .int .u8 pk.d2, .int .u8 pk.d3, .string pk.data] 32) (F)))) (by ac_rfl) ?_
    refine J_pre _ _ (fun w hs => TabP.sat hs) fun x hx => ?_
    obtain ⟨⟨hx1, hx2⟩, hx3⟩ := hx
    have hT2 := hT.dr
    have hT3 := hT.n
    refine J_quiet Try.mixed (by kernel_rfl) ?_
    refine Q_v (opv_move rfl) rfl ?_
    refine Q_v (opv_nilCheck rfl) rfl ?_
    first
      | refine Q_v (opv_fieldAddr0 rfl) rfl ?_
      | refine Q_v (opv_fieldAddr rfl) rfl ?_
    refine Q_v (opv_load rfl (Rd.look rfl)) rfl ?_
    refine Q_v (opv_loadS rfl) rfl ?_
    refine Q_v ((opv_lookup (k := encKy (kyOf pk)) (f := x.2.2.2) rfl rfl (shKy _)).as (v' := .pointer (ptrOf x.2.2.1 (kyOf pk))) (hx2.ptr _)) rfl ?_
    refine Q_v (opv_neqNil rfl rfl) rfl ?_
    refine QL_nil ?_
    refine K_then ?_
    refine J_cond_bool rfl (fun h1 => ?_) (fun h1 => ?_)
    · refine J_region ?_
      refine L_v (opv_move rfl) rfl ?_
      refine L_v (opv_loadS rfl) rfl ?_
      refine L_x rfl (opx_call0 (drop_raw tp x.1 (.int .i64 m) (.int .i64 wt) (.int .i64 T.now) x.2.1.1 x.2.1.2 (keysOf T.q) x.2.2.2 (kyOf pk) (by rw [keysOf_len]; omega) T.dr (by omega)) rfl rfl rfl) (fun z _ => ?_)
      refine L_nil ?_
      have hmem : (kyOf pk) ∈ keysOf T.q := by rw [← hx1]; exact ptrOf_some.1 h1
      have hfr : (T.free (kyOf pk)) = ⟨wob T.q (kyOf pk), T.now, T.dr + 1⟩ := if_pos hmem
      rw [← keysOf_wob]
      exact K_cut () trivial ⟨rfl, rfl, rfl, trivial⟩ (Ent.trans (Ent.take (Q := (sep (cel tp [.map (some x.1), .slice z.1 (keysOf (wob T.q (kyOf pk))).length z.2, .int .i64 m, .int .i64 wt, .int .i64 T.now, .int .i64 (T.dr + 1)] 99) (sep (mapp x.1 ksKy (mdel x.2.2.2 (encKy (kyOf pk)))) (sep (Own 70 10 (.slice z.1 (keysOf (wob T.q (kyOf pk))).length z.2) (keysOf (wob T.q (kyOf pk))).length (flatK (keysOf (wob T.q (kyOf pk))))) (sep (begs x.2.2.1) (sep (cel b5 [.int .u8 (kyOf pk).s0, .int .u8 (kyOf pk).s1, .int .u8 (kyOf pk).s2, .int .u8 (kyOf pk).s3, .int .u8 (kyOf pk).d0, .int .u8 (kyOf pk).d1, .int .u8 (kyOf pk).d2, .int .u8 (kyOf pk).d3, .int .i64 (kyOf pk).proto, .int .i64 (kyOf pk).id] 70) (sep (cel b3 [.int .i64 pk.id, .bool pk.more, .int .i64 pk.off, .int .i64 pk.ttl, .int .i64 pk.proto, .int .u8 pk.s0, .int .u8 pk.s1, .int .u8 pk.s2, .int .u8 pk.s3, .int .u8 pk.d0, .int .u8 pk.d1, .int .u8 pk.d2, .int .u8 pk.d3, .string pk.data] 32) (F))))))))) (Ent.trans (Ent.frame_left (Ent.frame_left (Ent.frame_left (Ent.frame (begs_filter (fun e => !decide (e.1.k = (kyOf pk))) x.2.2.1) _) _) _) _) (Ent.trans (TabP.fold (T := ⟨wob T.q (kyOf pk), T.now, T.dr + 1⟩) x.1 z (x.2.2.1.filter fun e => !decide (e.1.k = (kyOf pk))) (mdel x.2.2.2 (encKy (kyOf pk))) (by rw [← hx1]; unfold wob; rw [List.filter_map]; rfl) (hx2.del _)) (Ent.of (by rw [hfr])))))
    · refine J_skip ?_
      have hmem : ¬ (kyOf pk) ∈ keysOf T.q := by rw [← hx1]; intro hh; rw [ptrOf_some.2 hh] at h1; cases h1
      have hfr : (T.free (kyOf pk)) = T := if_neg hmem
      exact K_cut () trivial ⟨rfl, rfl, rfl, trivial⟩ (Ent.trans (Ent.take (Q := (sep (cel tp [.map (some x.1), .slice x.2.1.1 (keysOf T.q).length x.2.1.2, .int .i64 m, .int .i64 wt, .int .i64 T.now, .int .i64 T.dr] 99) (sep (mapp x.1 ksKy x.2.2.2) (sep (Own 70 10 (.slice x.2.1.1 (keysOf T.q).length x.2.1.2) (keysOf T.q).length (flatK (keysOf T.q))) (sep (begs x.2.2.1) (sep (cel b5 [.int .u8 (kyOf pk).s0, .int .u8 (kyOf pk).s1, .int .u8 (kyOf pk).s2, .int .u8 (kyOf pk).s3, .int .u8 (kyOf pk).d0, .int .u8 (kyOf pk).d1, .int .u8 (kyOf pk).d2, .int .u8 (kyOf pk).d3, .int .i64 (kyOf pk).proto, .int .i64 (kyOf pk).id] 70) (sep (cel b3 [.int .i64 pk.id, .bool pk.more, .int .i64 pk.off, .int .i64 pk.ttl, .int .i64 pk.proto, .int .u8 pk.s0, .int .u8 pk.s1, .int .u8 pk.s2, .int .u8 pk.s3, .int .u8 pk.d0, .int .u8 pk.d1, .int .u8 pk.d2, .int .u8 pk.d3, .string pk.data] 32) (F))))))))) (Ent.trans (TabP.fold x.1 x.2.1 x.2.2.1 x.2.2.2 hx1 hx2) (Ent.of (by rw [hfr]))))
  · have hTf := hT.free (kyOf pk)
    have hno := free_not (T := T) (k := (kyOf pk))
    generalize hT1 : (T.free (kyOf pk)) = T1 at hTf hno ⊢
    refine J_seq ?_
    refine J_seq ?_
    refine J_region ?_
    refine L_v (opv_loadS rfl) rfl ?_
    refine L_x rfl (opx_call0 (sound_spec pk 0 (by decide) (by omega)) rfl rfl rfl) (fun _ _ => ?_)
    refine L_emp ?_
    refine L_v (opv_assign rfl) rfl ?_
    refine L_nil ?_
    refine K_then ?_
    refine J_seq ?_
    refine J_region ?_
    refine L_v (opv_move rfl) rfl ?_
    first
      | refine L_v (opv_neq rfl rfl) rfl ?_
      | refine L_v (opv_neqS rfl rfl) rfl ?_
      | refine L_v (opv_neqNil rfl rfl) rfl ?_
      | refine L_v (opv_neqB rfl rfl) rfl ?_
    refine L_nil ?_
    refine K_then ?_
    refine J_cond rfl (fun h2 => ?_) (fun h2 => ?_)
    · refine J_seq ?_
      refine J_region ?_
      refine L_v (opv_move rfl) rfl ?_
      refine L_v (opv_assign rfl) rfl ?_
      refine L_nil ?_
      refine K_then ?_
      refine J_ret ?_
      refine K_then_ret ?_
      have e := begn_bad (m := m) (T := T) h2
      rw [e, hT1]
      exact K_ret1 rfl rfl () trivial rfl Ent.take
    · refine J_skip ?_
      refine K_then ?_
      refine J_seq ?_
      refine J_seq ?_
      refine J_eq (sep (TabP tp m wt T1) (sep (cel b5 [.int .u8 (kyOf pk).s0, .int .u8 (kyOf pk).s1, .int .u8 (kyOf pk).s2, .int .u8 (kyOf pk).s3, .int .u8 (kyOf pk).d0, .int .u8 (kyOf pk).d1, .int .u8 (kyOf pk).d2, .int .u8 (kyOf pk).d3, .int .i64 (kyOf pk).proto, .int .i64 (kyOf pk).id] 70) (sep (cel b3 [.int .i64 pk.id, .bool pk.more, .int .i64 pk.off, .int .i64 pk.ttl, .int .i64 pk.proto, .int .u8 pk.s0, .int .u8 pk.s1, .int .u8 pk.s2, .int .u8 pk.s3, .int .u8 pk.d0, .int .u8 pk.d1, .int .u8 pk.d2, .int .u8 pk.d3, .string pk.data] 32) (F)))) (by ac_rfl) ?_
      refine J_pre _ _ (fun w hs => TabP.sat hs) fun x hx => ?_
      obtain ⟨⟨hx1, hx2⟩, hx3⟩ := hx
      have hs0 : sndC pk 0 = 0 := Classical.not_not.1 h2
      have hsz := snd_size hs0
      have hT2 := hTf.dr
      have hT3 := hTf.n
      have hnew : ∀ e ∈ x.2.2.1, e.1.k ≠ (kyOf pk) := fun e he hk => hno (by rw [← hx1]; exact hk ▸ List.mem_map.2 ⟨e.1, List.mem_map.2 ⟨e, he, rfl⟩, rfl⟩)
      have hkl := keysOf_len T1.q
      refine J_quiet Try.mixed (by kernel_rfl) ?_
      refine Q_v (opv_move rfl) rfl ?_
      refine Q_v (opv_nilCheck rfl) rfl ?_
      first
        | refine Q_v (opv_fieldAddr0 rfl) rfl ?_
        | refine Q_v (opv_fieldAddr rfl) rfl ?_
      refine Q_v (opv_load rfl (Rd.look rfl)) rfl ?_
      first
        | refine Q_v (opv_lenL rfl) rfl ?_
        | refine Q_v (opv_lenS rfl) rfl ?_
      refine Q_v (opv_move rfl) rfl ?_
      refine Q_v (opv_nilCheck rfl) rfl ?_
      first
        | refine Q_v (opv_fieldAddr0 rfl) rfl ?_
        | refine Q_v (opv_fieldAddr rfl) rfl ?_
      refine Q_v (opv_load rfl (Rd.look rfl)) rfl ?_
      refine Q_v ((opv_geq rfl rfl).as (v' := .bool (decide (m ≤ (T1.q.length : Int)))) (by rw [keysOf_len])) rfl ?_
      refine QL_nil ?_
      refine K_then ?_
      refine J_cond rfl (fun h3 => ?_) (fun h3 => ?_)
      · refine J_seq ?_
        refine J_region ?_
        refine L_v (opv_assign rfl) rfl ?_
        refine L_nil ?_
        refine K_then ?_
        refine J_ret ?_
        refine K_then_ret ?_
        have e := begn_full (m := m) (T := T) hs0 (by rw [hT1]; exact h3)
        rw [e, hT1]
        exact K_ret1 rfl rfl () trivial rfl (Ent.trans (Ent.take (Q := (sep (cel tp [.map (some x.1), .slice x.2.1.1 (keysOf T1.q).length x.2.1.2, .int .i64 m, .int .i64 wt, .int .i64 T1.now, .int .i64 T1.dr] 99) (sep (mapp x.1 ksKy x.2.2.2) (sep (Own 70 10 (.slice x.2.1.1 (keysOf T1.q).length x.2.1.2) (keysOf T1.q).length (flatK (keysOf T1.q))) (sep (begs x.2.2.1) (F))))))) (TabP.fold x.1 x.2.1 x.2.2.1 x.2.2.2 hx1 hx2))
      · refine J_skip ?_
        refine K_then ?_
        refine J_seq ?_
        refine J_steps ((sep (cel b3 [.int .i64 pk.id, .bool pk.more, .int .i64 pk.off, .int .i64 pk.ttl, .int .i64 pk.proto, .int .u8 pk.s0, .int .u8 pk.s1, .int .u8 pk.s2, .int .u8 pk.s3, .int .u8 pk.d0, .int .u8 pk.d1, .int .u8 pk.d2, .int .u8 pk.d3, .string pk.data] 32) (sep (cel b5 [.int .u8 (kyOf pk).s0, .int .u8 (kyOf pk).s1, .int .u8 (kyOf pk).s2, .int .u8 (kyOf pk).s3, .int .u8 (kyOf pk).d0, .int .u8 (kyOf pk).d1, .int .u8 (kyOf pk).d2, .int .u8 (kyOf pk).d3, .int .i64 (kyOf pk).proto, .int .i64 (kyOf pk).id] 70) (cel tp [.map (some x.1), .slice x.2.1.1 (keysOf T1.q).length x.2.1.2, .int .i64 m, .int .i64 wt, .int .i64 T1.now, .int .i64 T1.dr] 99)))) ((sep (cel b3 [.int .i64 pk.id, .bool pk.more, .int .i64 pk.off, .int .i64 pk.ttl, .int .i64 pk.proto, .int .u8 pk.s0, .int .u8 pk.s1, .int .u8 pk.s2, .int .u8 pk.s3, .int .u8 pk.d0, .int .u8 pk.d1, .int .u8 pk.d2, .int .u8 pk.d3, .string pk.data] 32) (sep (cel b5 [.int .u8 (kyOf pk).s0, .int .u8 (kyOf pk).s1, .int .u8 (kyOf pk).s2, .int .u8 (kyOf pk).s3, .int .u8 (kyOf pk).d0, .int .u8 (kyOf pk).d1, .int .u8 (kyOf pk).d2, .int .u8 (kyOf pk).d3, .int .i64 (kyOf pk).proto, .int .i64 (kyOf pk).id] 70) (cel tp [.map (some x.1), .slice x.2.1.1 (keysOf T1.q).length x.2.1.2, .int .i64 m, .int .i64 wt, .int .i64 T1.now, .int .i64 T1.dr] 99)))) [] Try.mixed ?_
        refine R_pure 0 rfl (by kernel_rfl) (by kernel_rfl) (by kernel_rfl) (by kernel_rfl) (.inr ⟨_, Take.eq (A := (sep (cel b3 [.int .i64 pk.id, .bool pk.more, .int .i64 pk.off, .int .i64 pk.ttl, .int .i64 pk.proto, .int .u8 pk.s0, .int .u8 pk.s1, .int .u8 pk.s2, .int .u8 pk.s3, .int .u8 pk.d0, .int .u8 pk.d1, .int .u8 pk.d2, .int .u8 pk.d3, .string pk.data] 32) (sep (cel b5 [.int .u8 (kyOf pk).s0, .int .u8 (kyOf pk).s1, .int .u8 (kyOf pk).s2, .int .u8 (kyOf pk).s3, .int .u8 (kyOf pk).d0, .int .u8 (kyOf pk).d1, .int .u8 (kyOf pk).d2, .int .u8 (kyOf pk).d3, .int .i64 (kyOf pk).proto, .int .i64 (kyOf pk).id] 70) (cel tp [.map (some x.1), .slice x.2.1.1 (keysOf T1.q).length x.2.1.2, .int .i64 m, .int .i64 wt, .int .i64 T1.now, .int .i64 T1.dr] 99))))⟩) (opv_move rfl) rfl ?_
        refine R_pure 1 rfl (by kernel_rfl) (by kernel_rfl) (by kernel_rfl) (by kernel_rfl) (.inr ⟨_, Take.eq (A := (sep (cel b3 [.int .i64 pk.id, .bool pk.more, .int .i64 pk.off, .int .i64 pk.ttl, .int .i64 pk.proto, .int .u8 pk.s0, .int .u8 pk.s1, .int .u8 pk.s2, .int .u8 pk.s3, .int .u8 pk.d0, .int .u8 pk.d1, .int .u8 pk.d2, .int .u8 pk.d3, .string pk.data] 32) (sep (cel b5 [.int .u8 (kyOf pk).s0, .int .u8 (kyOf pk).s1, .int .u8 (kyOf pk).s2, .int .u8 (kyOf pk).s3, .int .u8 (kyOf pk).d0, .int .u8 (kyOf pk).d1, .int .u8 (kyOf pk).d2, .int .u8 (kyOf pk).d3, .int .i64 (kyOf pk).proto, .int .i64 (kyOf pk).id] 70) (cel tp [.map (some x.1), .slice x.2.1.1 (keysOf T1.q).length x.2.1.2, .int .i64 m, .int .i64 wt, .int .i64 T1.now, .int .i64 T1.dr] 99))))⟩) (opv_nilCheck rfl) rfl ?_
        first
          | refine R_pure 2 rfl (by kernel_rfl) (by kernel_rfl) (by kernel_rfl) (by kernel_rfl) (.inr ⟨_, Take.eq (A := (sep (cel b3 [.int .i64 pk.id, .bool pk.more, .int .i64 pk.off, .int .i64 pk.ttl, .int .i64 pk.proto, .int .u8 pk.s0, .int .u8 pk.s1, .int .u8 pk.s2, .int .u8 pk.s3, .int .u8 pk.d0, .int .u8 pk.d1, .int .u8 pk.d2, .int .u8 pk.d3, .string pk.data] 32) (sep (cel b5 [.int .u8 (kyOf pk).s0, .int .u8 (kyOf pk).s1, .int .u8 (kyOf pk).s2, .int .u8 (kyOf pk).s3, .int .u8 (kyOf pk).d0, .int .u8 (kyOf pk).d1, .int .u8 (kyOf pk).d2, .int .u8 (kyOf pk).d3, .int .i64 (kyOf pk).proto, .int .i64 (kyOf pk).id] 70) (cel tp [.map (some x.1), .slice x.2.1.1 (keysOf T1.q).length x.2.1.2, .int .i64 m, .int .i64 wt, .int .i64 T1.now, .int .i64 T1.dr] 99))))⟩) (opv_fieldAddr0 rfl) rfl ?_
          | refine R_pure 2 rfl (by kernel_rfl) (by kernel_rfl) (by kernel_rfl) (by kernel_rfl) (.inr ⟨_, Take.eq (A := (sep (cel b3 [.int .i64 pk.id, .bool pk.more, .int .i64 pk.off, .int .i64 pk.ttl, .int .i64 pk.proto, .int .u8 pk.s0, .int .u8 pk.s1, .int .u8 pk.s2, .int .u8 pk.s3, .int .u8 pk.d0, .int .u8 pk.d1, .int .u8 pk.d2, .int .u8 pk.d3, .string pk.data] 32) (sep (cel b5 [.int .u8 (kyOf pk).s0, .int .u8 (kyOf pk).s1, .int .u8 (kyOf pk).s2, .int .u8 (kyOf pk).s3, .int .u8 (kyOf pk).d0, .int .u8 (kyOf pk).d1, .int .u8 (kyOf pk).d2, .int .u8 (kyOf pk).d3, .int .i64 (kyOf pk).proto, .int .i64 (kyOf pk).id] 70) (cel tp [.map (some x.1), .slice x.2.1.1 (keysOf T1.q).length x.2.1.2, .int .i64 m, .int .i64 wt, .int .i64 T1.now, .int .i64 T1.dr] 99))))⟩) (opv_fieldAddr rfl) rfl ?_
        refine R_take 3 rfl (by kernel_rfl) (by kernel_rfl) (by kernel_rfl) (by kernel_rfl) (by kernel_rfl) (opv_load rfl (Rd.look rfl)) rfl ?_
        refine R_take 4 rfl (by kernel_rfl) (by kernel_rfl) (by kernel_rfl) (by kernel_rfl) (by kernel_rfl) (opv_loadS rfl) rfl ?_
        refine R_pure 5 rfl (by kernel_rfl) (by kernel_rfl) (by kernel_rfl) (by kernel_rfl) (.inr ⟨_, Take.eq (A := (sep (cel b3 [.int .i64 pk.id, .bool pk.more, .int .i64 pk.off, .int .i64 pk.ttl, .int .i64 pk.proto, .int .u8 pk.s0, .int .u8 pk.s1, .int .u8 pk.s2, .int .u8 pk.s3, .int .u8 pk.d0, .int .u8 pk.d1, .int .u8 pk.d2, .int .u8 pk.d3, .string pk.data] 32) (sep (cel b5 [.int .u8 (kyOf pk).s0, .int .u8 (kyOf pk).s1, .int .u8 (kyOf pk).s2, .int .u8 (kyOf pk).s3, .int .u8 (kyOf pk).d0, .int .u8 (kyOf pk).d1, .int .u8 (kyOf pk).d2, .int .u8 (kyOf pk).d3, .int .i64 (kyOf pk).proto, .int .i64 (kyOf pk).id] 70) (cel tp [.map (some x.1), .slice x.2.1.1 (keysOf T1.q).length x.2.1.2, .int .i64 m, .int .i64 wt, .int .i64 T1.now, .int .i64 T1.dr] 99))))⟩) (opv_move rfl) rfl ?_
        refine R_pure 6 rfl (by kernel_rfl) (by kernel_rfl) (by kernel_rfl) (by kernel_rfl) (.inr ⟨_, Take.eq (A := (sep (cel b3 [.int .i64 pk.id, .bool pk.more, .int .i64 pk.off, .int .i64 pk.ttl, .int .i64 pk.proto, .int .u8 pk.s0, .int .u8 pk.s1, .int .u8 pk.s2, .int .u8 pk.s3, .int .u8 pk.d0, .int .u8 pk.d1, .int .u8 pk.d2, .int .u8 pk.d3, .string pk.data] 32) (sep (cel b5 [.int .u8 (kyOf pk).s0, .int .u8 (kyOf pk).s1, .int .u8 (kyOf pk).s2, .int .u8 (kyOf pk).s3, .int .u8 (kyOf pk).d0, .int .u8 (kyOf pk).d1, .int .u8 (kyOf pk).d2, .int .u8 (kyOf pk).d3, .int .i64 (kyOf pk).proto, .int .i64 (kyOf pk).id] 70) (cel tp [.map (some x.1), .slice x.2.1.1 (keysOf T1.q).length x.2.1.2, .int .i64 m, .int .i64 wt, .int .i64 T1.now, .int .i64 T1.dr] 99))))⟩) (opv_nilCheck rfl) rfl ?_
        first
          | refine R_pure 7 rfl (by kernel_rfl) (by kernel_rfl) (by kernel_rfl) (by kernel_rfl) (.inr ⟨_, Take.eq (A := (sep (cel b3 [.int .i64 pk.id, .bool pk.more, .int .i64 pk.off, .int .i64 pk.ttl, .int .i64 pk.proto, .int .u8 pk.s0, .int .u8 pk.s1, .int .u8 pk.s2, .int .u8 pk.s3, .int .u8 pk.d0, .int .u8 pk.d1, .int .u8 pk.d2, .int .u8 pk.d3, .string pk.data] 32) (sep (cel b5 [.int .u8 (kyOf pk).s0, .int .u8 (kyOf pk).s1, .int .u8 (kyOf pk).s2, .int .u8 (kyOf pk).s3, .int .u8 (kyOf pk).d0, .int .u8 (kyOf pk).d1, .int .u8 (kyOf pk).d2, .int .u8 (kyOf pk).d3, .int .i64 (kyOf pk).proto, .int .i64 (kyOf pk).id] 70) (cel tp [.map (some x.1), .slice x.2.1.1 (keysOf T1.q).length x.2.1.2, .int .i64 m, .int .i64 wt, .int .i64 T1.now, .int .i64 T1.dr] 99))))⟩) (opv_fieldAddr0 rfl) rfl ?_
          | refine R_pure 7 rfl (by kernel_rfl) (by kernel_rfl) (by kernel_rfl) (by kernel_rfl) (.inr ⟨_, Take.eq (A := (sep (cel b3 [.int .i64 pk.id, .bool pk.more, .int .i64 pk.off, .int .i64 pk.ttl, .int .i64 pk.proto, .int .u8 pk.s0, .int .u8 pk.s1, .int .u8 pk.s2, .int .u8 pk.s3, .int .u8 pk.d0, .int .u8 pk.d1, .int .u8 pk.d2, .int .u8 pk.d3, .string pk.data] 32) (sep (cel b5 [.int .u8 (kyOf pk).s0, .int .u8 (kyOf pk).s1, .int .u8 (kyOf pk).s2, .int .u8 (kyOf pk).s3, .int .u8 (kyOf pk).d0, .int .u8 (kyOf pk).d1, .int .u8 (kyOf pk).d2, .int .u8 (kyOf pk).d3, .int .i64 (kyOf pk).proto, .int .i64 (kyOf pk).id] 70) (cel tp [.map (some x.1), .slice x.2.1.1 (keysOf T1.q).length x.2.1.2, .int .i64 m, .int .i64 wt, .int .i64 T1.now, .int .i64 T1.dr] 99))))⟩) (opv_fieldAddr rfl) rfl ?_
        refine R_take 8 rfl (by kernel_rfl) (by kernel_rfl) (by kernel_rfl) (by kernel_rfl) (by kernel_rfl) (opv_load rfl (Rd.look rfl)) rfl ?_
        first
          | refine R_pure 9 rfl (by kernel_rfl) (by kernel_rfl) (by kernel_rfl) (by kernel_rfl) (.inr ⟨_, Take.eq (A := (sep (cel b3 [.int .i64 pk.id, .bool pk.more, .int .i64 pk.off, .int .i64 pk.ttl, .int .i64 pk.proto, .int .u8 pk.s0, .int .u8 pk.s1, .int .u8 pk.s2, .int .u8 pk.s3, .int .u8 pk.d0, .int .u8 pk.d1, .int .u8 pk.d2, .int .u8 pk.d3, .string pk.data] 32) (sep (cel b5 [.int .u8 (kyOf pk).s0, .int .u8 (kyOf pk).s1, .int .u8 (kyOf pk).s2, .int .u8 (kyOf pk).s3, .int .u8 (kyOf pk).d0, .int .u8 (kyOf pk).d1, .int .u8 (kyOf pk).d2, .int .u8 (kyOf pk).d3, .int .i64 (kyOf pk).proto, .int .i64 (kyOf pk).id] 70) (cel tp [.map (some x.1), .slice x.2.1.1 (keysOf T1.q).length x.2.1.2, .int .i64 m, .int .i64 wt, .int .i64 T1.now, .int .i64 T1.dr] 99))))⟩) (opv_fieldAddr0 rfl) rfl ?_
          | refine R_pure 9 rfl (by kernel_rfl) (by kernel_rfl) (by kernel_rfl) (by kernel_rfl) (.inr ⟨_, Take.eq (A := (sep (cel b3 [.int .i64 pk.id, .bool pk.more, .int .i64 pk.off, .int .i64 pk.ttl, .int .i64 pk.proto, .int .u8 pk.s0, .int .u8 pk.s1, .int .u8 pk.s2, .int .u8 pk.s3, .int .u8 pk.d0, .int .u8 pk.d1, .int .u8 pk.d2, .int .u8 pk.d3, .string pk.data] 32) (sep (cel b5 [.int .u8 (kyOf pk).s0, .int .u8 (kyOf pk).s1, .int .u8 (kyOf pk).s2, .int .u8 (kyOf pk).s3, .int .u8 (kyOf pk).d0, .int .u8 (kyOf pk).d1, .int .u8 (kyOf pk).d2, .int .u8 (kyOf pk).d3, .int .i64 (kyOf pk).proto, .int .i64 (kyOf pk).id] 70) (cel tp [.map (some x.1), .slice x.2.1.1 (keysOf T1.q).length x.2.1.2, .int .i64 m, .int .i64 wt, .int .i64 T1.now, .int .i64 T1.dr] 99))))⟩) (opv_fieldAddr rfl) rfl ?_
        refine R_take 10 rfl (by kernel_rfl) (by kernel_rfl) (by kernel_rfl) (by kernel_rfl) (by kernel_rfl) (opv_load rfl (Rd.look rfl)) rfl ?_
        refine R_only 11 rfl rfl (by kernel_rfl) (opx_s2bB rfl (by unfold maxLen; omega) rfl) (fun _ _ => ⟨_, Take.eq (A := (sep (cel b3 [.int .i64 pk.id, .bool pk.more, .int .i64 pk.off, .int .i64 pk.ttl, .int .i64 pk.proto, .int .u8 pk.s0, .int .u8 pk.s1, .int .u8 pk.s2, .int .u8 pk.s3, .int .u8 pk.d0, .int .u8 pk.d1, .int .u8 pk.d2, .int .u8 pk.d3, .string pk.data] 32) (sep (cel b5 [.int .u8 (kyOf pk).s0, .int .u8 (kyOf pk).s1, .int .u8 (kyOf pk).s2, .int .u8 (kyOf pk).s3, .int .u8 (kyOf pk).d0, .int .u8 (kyOf pk).d1, .int .u8 (kyOf pk).d2, .int .u8 (kyOf pk).d3, .int .i64 (kyOf pk).proto, .int .i64 (kyOf pk).id] 70) (cel tp [.map (some x.1), .slice x.2.1.1 (keysOf T1.q).length x.2.1.2, .int .i64 m, .int .i64 wt, .int .i64 T1.now, .int .i64 T1.dr] 99))))⟩) (.inr fun _ _ => ⟨_, Take.eq (A := (sep (cel b3 [.int .i64 pk.id, .bool pk.more, .int .i64 pk.off, .int .i64 pk.ttl, .int .i64 pk.proto, .int .u8 pk.s0, .int .u8 pk.s1, .int .u8 pk.s2, .int .u8 pk.s3, .int .u8 pk.d0, .int .u8 pk.d1, .int .u8 pk.d2, .int .u8 pk.d3, .string pk.data] 32) (sep (cel b5 [.int .u8 (kyOf pk).s0, .int .u8 (kyOf pk).s1, .int .u8 (kyOf pk).s2, .int .u8 (kyOf pk).s3, .int .u8 (kyOf pk).d0, .int .u8 (kyOf pk).d1, .int .u8 (kyOf pk).d2, .int .u8 (kyOf pk).d3, .int .i64 (kyOf pk).proto, .int .i64 (kyOf pk).id] 70) (cel tp [.map (some x.1), .slice x.2.1.1 (keysOf T1.q).length x.2.1.2, .int .i64 m, .int .i64 wt, .int .i64 T1.now, .int .i64 T1.dr] 99))))⟩) (fun y45 _ => ?_)
        refine R_pure 12 rfl (by kernel_rfl) (by kernel_rfl) (by kernel_rfl) (by kernel_rfl) (.inr ⟨_, Take.eq (A := (sep (cel b3 [.int .i64 pk.id, .bool pk.more, .int .i64 pk.off, .int .i64 pk.ttl, .int .i64 pk.proto, .int .u8 pk.s0, .int .u8 pk.s1, .int .u8 pk.s2, .int .u8 pk.s3, .int .u8 pk.d0, .int .u8 pk.d1, .int .u8 pk.d2, .int .u8 pk.d3, .string pk.data] 32) (sep (cel b5 [.int .u8 (kyOf pk).s0, .int .u8 (kyOf pk).s1, .int .u8 (kyOf pk).s2, .int .u8 (kyOf pk).s3, .int .u8 (kyOf pk).d0, .int .u8 (kyOf pk).d1, .int .u8 (kyOf pk).d2, .int .u8 (kyOf pk).d3, .int .i64 (kyOf pk).proto, .int .i64 (kyOf pk).id] 70) (cel tp [.map (some x.1), .slice x.2.1.1 (keysOf T1.q).length x.2.1.2, .int .i64 m, .int .i64 wt, .int .i64 T1.now, .int .i64 T1.dr] 99))))⟩) (opv_build rfl) rfl ?_
        refine R_only 13 rfl rfl (by kernel_rfl) (opx_box rfl rfl) (fun _ _ => ⟨_, Take.eq (A := (sep (cel b3 [.int .i64 pk.id, .bool pk.more, .int .i64 pk.off, .int .i64 pk.ttl, .int .i64 pk.proto, .int .u8 pk.s0, .int .u8 pk.s1, .int .u8 pk.s2, .int .u8 pk.s3, .int .u8 pk.d0, .int .u8 pk.d1, .int .u8 pk.d2, .int .u8 pk.d3, .string pk.data] 32) (sep (cel b5 [.int .u8 (kyOf pk).s0, .int .u8 (kyOf pk).s1, .int .u8 (kyOf pk).s2, .int .u8 (kyOf pk).s3, .int .u8 (kyOf pk).d0, .int .u8 (kyOf pk).d1, .int .u8 (kyOf pk).d2, .int .u8 (kyOf pk).d3, .int .i64 (kyOf pk).proto, .int .i64 (kyOf pk).id] 70) (cel tp [.map (some x.1), .slice x.2.1.1 (keysOf T1.q).length x.2.1.2, .int .i64 m, .int .i64 wt, .int .i64 T1.now, .int .i64 T1.dr] 99))))⟩) (.inr fun _ _ => ⟨_, Take.eq (A := (sep (cel b3 [.int .i64 pk.id, .bool pk.more, .int .i64 pk.off, .int .i64 pk.ttl, .int .i64 pk.proto, .int .u8 pk.s0, .int .u8 pk.s1, .int .u8 pk.s2, .int .u8 pk.s3, .int .u8 pk.d0, .int .u8 pk.d1, .int .u8 pk.d2, .int .u8 pk.d3, .string pk.data] 32) (sep (cel b5 [.int .u8 (kyOf pk).s0, .int .u8 (kyOf pk).s1, .int .u8 (kyOf pk).s2, .int .u8 (kyOf pk).s3, .int .u8 (kyOf pk).d0, .int .u8 (kyOf pk).d1, .int .u8 (kyOf pk).d2, .int .u8 (kyOf pk).d3, .int .i64 (kyOf pk).proto, .int .i64 (kyOf pk).id] 70) (cel tp [.map (some x.1), .slice x.2.1.1 (keysOf T1.q).length x.2.1.2, .int .i64 m, .int .i64 wt, .int .i64 T1.now, .int .i64 T1.dr] 99))))⟩) (fun b47 _ => ?_)
        refine R_only 14 rfl rfl (by kernel_rfl) (opx_mapUpdate (k := encKy (kyOf pk)) (f := x.2.2.2) rfl rfl rfl (shKy _)) (fun _ _ => ⟨_, Take.eq (A := (sep (cel b3 [.int .i64 pk.id, .bool pk.more, .int .i64 pk.off, .int .i64 pk.ttl, .int .i64 pk.proto, .int .u8 pk.s0, .int .u8 pk.s1, .int .u8 pk.s2, .int .u8 pk.s3, .int .u8 pk.d0, .int .u8 pk.d1, .int .u8 pk.d2, .int .u8 pk.d3, .string pk.data] 32) (sep (cel b5 [.int .u8 (kyOf pk).s0, .int .u8 (kyOf pk).s1, .int .u8 (kyOf pk).s2, .int .u8 (kyOf pk).s3, .int .u8 (kyOf pk).d0, .int .u8 (kyOf pk).d1, .int .u8 (kyOf pk).d2, .int .u8 (kyOf pk).d3, .int .i64 (kyOf pk).proto, .int .i64 (kyOf pk).id] 70) (cel tp [.map (some x.1), .slice x.2.1.1 (keysOf T1.q).length x.2.1.2, .int .i64 m, .int .i64 wt, .int .i64 T1.now, .int .i64 T1.dr] 99))))⟩) (.inr fun _ _ => ⟨_, Take.eq (A := (sep (cel b3 [.int .i64 pk.id, .bool pk.more, .int .i64 pk.off, .int .i64 pk.ttl, .int .i64 pk.proto, .int .u8 pk.s0, .int .u8 pk.s1, .int .u8 pk.s2, .int .u8 pk.s3, .int .u8 pk.d0, .int .u8 pk.d1, .int .u8 pk.d2, .int .u8 pk.d3, .string pk.data] 32) (sep (cel b5 [.int .u8 (kyOf pk).s0, .int .u8 (kyOf pk).s1, .int .u8 (kyOf pk).s2, .int .u8 (kyOf pk).s3, .int .u8 (kyOf pk).d0, .int .u8 (kyOf pk).d1, .int .u8 (kyOf pk).d2, .int .u8 (kyOf pk).d3, .int .i64 (kyOf pk).proto, .int .i64 (kyOf pk).id] 70) (cel tp [.map (some x.1), .slice x.2.1.1 (keysOf T1.q).length x.2.1.2, .int .i64 m, .int .i64 wt, .int .i64 T1.now, .int .i64 T1.dr] 99))))⟩) (fun _ _ => ?_)
        refine R_done (by kernel_rfl) ?_
        refine K_then ?_
        refine J_seq ?_
        refine J_steps (cel b5 [.int .u8 (kyOf pk).s0, .int .u8 (kyOf pk).s1, .int .u8 (kyOf pk).s2, .int .u8 (kyOf pk).s3, .int .u8 (kyOf pk).d0, .int .u8 (kyOf pk).d1, .int .u8 (kyOf pk).d2, .int .u8 (kyOf pk).d3, .int .i64 (kyOf pk).proto, .int .i64 (kyOf pk).id] 70) ((sep (cel b5 [.int .u8 (kyOf pk).s0, .int .u8 (kyOf pk).s1, .int .u8 (kyOf pk).s2, .int .u8 (kyOf pk).s3, .int .u8 (kyOf pk).d0, .int .u8 (kyOf pk).d1, .int .u8 (kyOf pk).d2, .int .u8 (kyOf pk).d3, .int .i64 (kyOf pk).proto, .int .i64 (kyOf pk).id] 70) (cel tp [.map (some x.1), .slice x.2.1.1 (keysOf T1.q).length x.2.1.2, .int .i64 m, .int .i64 wt, .int .i64 T1.now, .int .i64 T1.dr] 99))) [10] Try.mixed ?_
        refine R_pure 0 rfl (by kernel_rfl) (by kernel_rfl) (by kernel_rfl) (by kernel_rfl) (.inr ⟨_, Take.eq (A := (sep (cel b5 [.int .u8 (kyOf pk).s0, .int .u8 (kyOf pk).s1, .int .u8 (kyOf pk).s2, .int .u8 (kyOf pk).s3, .int .u8 (kyOf pk).d0, .int .u8 (kyOf pk).d1, .int .u8 (kyOf pk).d2, .int .u8 (kyOf pk).d3, .int .i64 (kyOf pk).proto, .int .i64 (kyOf pk).id] 70) (cel tp [.map (some x.1), .slice x.2.1.1 (keysOf T1.q).length x.2.1.2, .int .i64 m, .int .i64 wt, .int .i64 T1.now, .int .i64 T1.dr] 99)))⟩) (opv_move rfl) rfl ?_
        refine R_pure 1 rfl (by kernel_rfl) (by kernel_rfl) (by kernel_rfl) (by kernel_rfl) (.inr ⟨_, Take.eq (A := (sep (cel b5 [.int .u8 (kyOf pk).s0, .int .u8 (kyOf pk).s1, .int .u8 (kyOf pk).s2, .int .u8 (kyOf pk).s3, .int .u8 (kyOf pk).d0, .int .u8 (kyOf pk).d1, .int .u8 (kyOf pk).d2, .int .u8 (kyOf pk).d3, .int .i64 (kyOf pk).proto, .int .i64 (kyOf pk).id] 70) (cel tp [.map (some x.1), .slice x.2.1.1 (keysOf T1.q).length x.2.1.2, .int .i64 m, .int .i64 wt, .int .i64 T1.now, .int .i64 T1.dr] 99)))⟩) (opv_move rfl) rfl ?_
        refine R_pure 2 rfl (by kernel_rfl) (by kernel_rfl) (by kernel_rfl) (by kernel_rfl) (.inr ⟨_, Take.eq (A := (sep (cel b5 [.int .u8 (kyOf pk).s0, .int .u8 (kyOf pk).s1, .int .u8 (kyOf pk).s2, .int .u8 (kyOf pk).s3, .int .u8 (kyOf pk).d0, .int .u8 (kyOf pk).d1, .int .u8 (kyOf pk).d2, .int .u8 (kyOf pk).d3, .int .i64 (kyOf pk).proto, .int .i64 (kyOf pk).id] 70) (cel tp [.map (some x.1), .slice x.2.1.1 (keysOf T1.q).length x.2.1.2, .int .i64 m, .int .i64 wt, .int .i64 T1.now, .int .i64 T1.dr] 99)))⟩) (opv_nilCheck rfl) rfl ?_
        first
          | refine R_pure 3 rfl (by kernel_rfl) (by kernel_rfl) (by kernel_rfl) (by kernel_rfl) (.inr ⟨_, Take.eq (A := (sep (cel b5 [.int .u8 (kyOf pk).s0, .int .u8 (kyOf pk).s1, .int .u8 (kyOf pk).s2, .int .u8 (kyOf pk).s3, .int .u8 (kyOf pk).d0, .int .u8 (kyOf pk).d1, .int .u8 (kyOf pk).d2, .int .u8 (kyOf pk).d3, .int .i64 (kyOf pk).proto, .int .i64 (kyOf pk).id] 70) (cel tp [.map (some x.1), .slice x.2.1.1 (keysOf T1.q).length x.2.1.2, .int .i64 m, .int .i64 wt, .int .i64 T1.now, .int .i64 T1.dr] 99)))⟩) (opv_fieldAddr0 rfl) rfl ?_
          | refine R_pure 3 rfl (by kernel_rfl) (by kernel_rfl) (by kernel_rfl) (by kernel_rfl) (.inr ⟨_, Take.eq (A := (sep (cel b5 [.int .u8 (kyOf pk).s0, .int .u8 (kyOf pk).s1, .int .u8 (kyOf pk).s2, .int .u8 (kyOf pk).s3, .int .u8 (kyOf pk).d0, .int .u8 (kyOf pk).d1, .int .u8 (kyOf pk).d2, .int .u8 (kyOf pk).d3, .int .i64 (kyOf pk).proto, .int .i64 (kyOf pk).id] 70) (cel tp [.map (some x.1), .slice x.2.1.1 (keysOf T1.q).length x.2.1.2, .int .i64 m, .int .i64 wt, .int .i64 T1.now, .int .i64 T1.dr] 99)))⟩) (opv_fieldAddr rfl) rfl ?_
        refine R_take 4 rfl (by kernel_rfl) (by kernel_rfl) (by kernel_rfl) (by kernel_rfl) (by kernel_rfl) (opv_load rfl (Rd.look rfl)) rfl ?_
        refine R_take 5 rfl (by kernel_rfl) (by kernel_rfl) (by kernel_rfl) (by kernel_rfl) (by kernel_rfl) (opv_loadS rfl) rfl ?_
        refine R_only 6 rfl rfl (by kernel_rfl) (opx_buildSlice1 (m := 10) rfl rfl (by omega) (by omega) rfl) (fun _ _ => ⟨_, Take.eq (A := cel b5 [.int .u8 (kyOf pk).s0, .int .u8 (kyOf pk).s1, .int .u8 (kyOf pk).s2, .int .u8 (kyOf pk).s3, .int .u8 (kyOf pk).d0, .int .u8 (kyOf pk).d1, .int .u8 (kyOf pk).d2, .int .u8 (kyOf pk).d3, .int .i64 (kyOf pk).proto, .int .i64 (kyOf pk).id] 70)⟩) (.inr fun _ _ => ⟨_, Take.eq (A := (sep (cel b5 [.int .u8 (kyOf pk).s0, .int .u8 (kyOf pk).s1, .int .u8 (kyOf pk).s2, .int .u8 (kyOf pk).s3, .int .u8 (kyOf pk).d0, .int .u8 (kyOf pk).d1, .int .u8 (kyOf pk).d2, .int .u8 (kyOf pk).d3, .int .i64 (kyOf pk).proto, .int .i64 (kyOf pk).id] 70) (cel tp [.map (some x.1), .slice x.2.1.1 (keysOf T1.q).length x.2.1.2, .int .i64 m, .int .i64 wt, .int .i64 T1.now, .int .i64 T1.dr] 99)))⟩) (fun b54 _ => ?_)
        refine R_only 7 rfl rfl (by kernel_rfl) (opx_append (m := 10) (B := 24) rfl rfl (Src.lit) rfl (by omega) rfl (by simp [Value.oneCell']) (by unfold maxLen; omega) (by omega) rfl) (fun _ _ => ⟨_, Take.eq (A := cel b5 [.int .u8 (kyOf pk).s0, .int .u8 (kyOf pk).s1, .int .u8 (kyOf pk).s2, .int .u8 (kyOf pk).s3, .int .u8 (kyOf pk).d0, .int .u8 (kyOf pk).d1, .int .u8 (kyOf pk).d2, .int .u8 (kyOf pk).d3, .int .i64 (kyOf pk).proto, .int .i64 (kyOf pk).id] 70)⟩) (.inr fun _ _ => ⟨_, Take.eq (A := (sep (cel b5 [.int .u8 (kyOf pk).s0, .int .u8 (kyOf pk).s1, .int .u8 (kyOf pk).s2, .int .u8 (kyOf pk).s3, .int .u8 (kyOf pk).d0, .int .u8 (kyOf pk).d1, .int .u8 (kyOf pk).d2, .int .u8 (kyOf pk).d3, .int .i64 (kyOf pk).proto, .int .i64 (kyOf pk).id] 70) (cel tp [.map (some x.1), .slice x.2.1.1 (keysOf T1.q).length x.2.1.2, .int .i64 m, .int .i64 wt, .int .i64 T1.now, .int .i64 T1.dr] 99)))⟩) (fun y55 _ => ?_)
        refine R_pure 8 rfl (by kernel_rfl) (by kernel_rfl) (by kernel_rfl) (by kernel_rfl) (.inr ⟨_, Take.eq (A := (sep (cel b5 [.int .u8 (kyOf pk).s0, .int .u8 (kyOf pk).s1, .int .u8 (kyOf pk).s2, .int .u8 (kyOf pk).s3, .int .u8 (kyOf pk).d0, .int .u8 (kyOf pk).d1, .int .u8 (kyOf pk).d2, .int .u8 (kyOf pk).d3, .int .i64 (kyOf pk).proto, .int .i64 (kyOf pk).id] 70) (cel tp [.map (some x.1), .slice x.2.1.1 (keysOf T1.q).length x.2.1.2, .int .i64 m, .int .i64 wt, .int .i64 T1.now, .int .i64 T1.dr] 99)))⟩) (opv_nilCheck rfl) rfl ?_
        first
          | refine R_pure 9 rfl (by kernel_rfl) (by kernel_rfl) (by kernel_rfl) (by kernel_rfl) (.inr ⟨_, Take.eq (A := (sep (cel b5 [.int .u8 (kyOf pk).s0, .int .u8 (kyOf pk).s1, .int .u8 (kyOf pk).s2, .int .u8 (kyOf pk).s3, .int .u8 (kyOf pk).d0, .int .u8 (kyOf pk).d1, .int .u8 (kyOf pk).d2, .int .u8 (kyOf pk).d3, .int .i64 (kyOf pk).proto, .int .i64 (kyOf pk).id] 70) (cel tp [.map (some x.1), .slice x.2.1.1 (keysOf T1.q).length x.2.1.2, .int .i64 m, .int .i64 wt, .int .i64 T1.now, .int .i64 T1.dr] 99)))⟩) (opv_fieldAddr0 rfl) rfl ?_
          | refine R_pure 9 rfl (by kernel_rfl) (by kernel_rfl) (by kernel_rfl) (by kernel_rfl) (.inr ⟨_, Take.eq (A := (sep (cel b5 [.int .u8 (kyOf pk).s0, .int .u8 (kyOf pk).s1, .int .u8 (kyOf pk).s2, .int .u8 (kyOf pk).s3, .int .u8 (kyOf pk).d0, .int .u8 (kyOf pk).d1, .int .u8 (kyOf pk).d2, .int .u8 (kyOf pk).d3, .int .i64 (kyOf pk).proto, .int .i64 (kyOf pk).id] 70) (cel tp [.map (some x.1), .slice x.2.1.1 (keysOf T1.q).length x.2.1.2, .int .i64 m, .int .i64 wt, .int .i64 T1.now, .int .i64 T1.dr] 99)))⟩) (opv_fieldAddr rfl) rfl ?_
        refine R_only 10 rfl rfl (by kernel_rfl) (opx_store rfl rfl rfl (by simp [Value.oneCell'])) (fun _ _ => ⟨_, Take.eq (A := cel b5 [.int .u8 (kyOf pk).s0, .int .u8 (kyOf pk).s1, .int .u8 (kyOf pk).s2, .int .u8 (kyOf pk).s3, .int .u8 (kyOf pk).d0, .int .u8 (kyOf pk).d1, .int .u8 (kyOf pk).d2, .int .u8 (kyOf pk).d3, .int .i64 (kyOf pk).proto, .int .i64 (kyOf pk).id] 70)⟩) (.inl (by kernel_rfl)) (fun _ _ => ?_)
        refine R_done (by kernel_rfl) ?_
        refine K_then ?_
        refine J_seq ?_
        refine J_region ?_
        refine L_v (opv_assign rfl) rfl ?_
        refine L_nil ?_
        refine K_then ?_
        refine J_ret ?_
        have e := begn_ok (m := m) (T := T) hs0 (by rw [hT1]; exact h3)
        rw [e, hT1]
        have e1 : flatK (keysOf T1.q) ++ [.int .u8 (kyOf pk).s0, .int .u8 (kyOf pk).s1, .int .u8 (kyOf pk).s2, .int .u8 (kyOf pk).s3, .int .u8 (kyOf pk).d0, .int .u8 (kyOf pk).d1, .int .u8 (kyOf pk).d2, .int .u8 (kyOf pk).d3, .int .i64 (kyOf pk).proto, .int .i64 (kyOf pk).id] = flatK (keysOf (T1.q ++ [(⟨(kyOf pk), T1.now, pk.data⟩ : Bg)])) := by unfold keysOf flatK; rw [List.map_append, List.flatMap_append]; rfl
        have e2 : (keysOf T1.q).length + 1 = (keysOf (T1.q ++ [(⟨(kyOf pk), T1.now, pk.data⟩ : Bg)])).length := by rw [keysOf_len, keysOf_len]; simp
        rw [e1, e2]
        exact K_ret1 rfl rfl () trivial rfl (Ent.trans (Ent.take (Q := (sep (cel b47 [.int .i64 T1.now, .slice y45.1 pk.data.size y45.2] 101) (sep (OwnB 5 y45 pk.data) (sep (cel tp [.map (some x.1), .slice y55.1 (keysOf (T1.q ++ [(⟨(kyOf pk), T1.now, pk.data⟩ : Bg)])).length y55.2, .int .i64 m, .int .i64 wt, .int .i64 T1.now, .int .i64 T1.dr] 99) (sep (mapp x.1 ksKy (mput x.2.2.2 (encKy (kyOf pk)) (.pointer (some (ad b47 0))))) (sep (Own 70 10 (.slice y55.1 (keysOf (T1.q ++ [(⟨(kyOf pk), T1.now, pk.data⟩ : Bg)])).length y55.2) (keysOf (T1.q ++ [(⟨(kyOf pk), T1.now, pk.data⟩ : Bg)])).length (flatK (keysOf (T1.q ++ [(⟨(kyOf pk), T1.now, pk.data⟩ : Bg)])))) (sep (begs x.2.2.1) (F))))))))) (Ent.trans (begP.fold (e := ((⟨(kyOf pk), T1.now, pk.data⟩ : Bg), b47)) y45) (Ent.trans (Ent.of (Q := (sep (cel tp [.map (some x.1), .slice y55.1 (keysOf (T1.q ++ [(⟨(kyOf pk), T1.now, pk.data⟩ : Bg)])).length y55.2, .int .i64 m, .int .i64 wt, .int .i64 T1.now, .int .i64 T1.dr] 99) (sep (mapp x.1 ksKy (mput x.2.2.2 (encKy (kyOf pk)) (.pointer (some (ad b47 0))))) (sep (Own 70 10 (.slice y55.1 (keysOf (T1.q ++ [(⟨(kyOf pk), T1.now, pk.data⟩ : Bg)])).length y55.2) (keysOf (T1.q ++ [(⟨(kyOf pk), T1.now, pk.data⟩ : Bg)])).length (flatK (keysOf (T1.q ++ [(⟨(kyOf pk), T1.now, pk.data⟩ : Bg)])))) (sep (begs (x.2.2.1 ++ [((⟨(kyOf pk), T1.now, pk.data⟩ : Bg), b47)])) (F)))))) (by rw [begs_app, begs_one]; ac_rfl)) (TabP.fold (T := ⟨(T1.q ++ [(⟨(kyOf pk), T1.now, pk.data⟩ : Bg)]), T1.now, T1.dr⟩) x.1 y55 (x.2.2.1 ++ [((⟨(kyOf pk), T1.now, pk.data⟩ : Bg), b47)]) _ (by rw [List.map_append, hx1]; rfl) (hx2.put (⟨(kyOf pk), T1.now, pk.data⟩ : Bg) b47 hnew)))))

end Go.Proofs.Ytjpbpfihacfndaa
