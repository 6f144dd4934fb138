/- Rules of a separation logic over the model, and contracts of functions of the translation; used by the texts that import this one. -/
import Derived.Test.YtpkcniedaabpoaaGreatM3
import Derived.Test.YtpkcniedaabpoaaGreatM6
import Derived.Test.YtpkcniedaabpoaaGreatM1
import Derived.Test.YtpkcniedaabpoaaGreatM2
import Derived.Test.YtpkcniedaabpoaaGreatM5
set_option linter.unusedVariables false
set_option linter.unusedSimpArgs false
namespace Go.Proofs.YtpkcniedaabpoaaGreat
open Go.SLA
set_option maxRecDepth 100000
attribute [local irreducible] J L K QL Rg FSpec OpV OpX Rd Back
theorem key_specV (p : Pk) : FSpec Tryz.prog 51 #[.agg [.int .i64 p.id, .bool p.more, .int .i64 p.off, .int .i64 p.ttl, .int .i64 p.proto, .int .u8 p.s0, .int .u8 p.s1, .int .u8 p.s2, .int .u8 p.s3, .int .u8 p.d0, .int .u8 p.d1, .int .u8 p.d2, .int .u8 p.d3, .string p.data].toArray] emp (fun _ : Unit => True) (fun _ => .agg [.int .u8 (kyOf p).s0, .int .u8 (kyOf p).s1, .int .u8 (kyOf p).s2, .int .u8 (kyOf p).s3, .int .u8 (kyOf p).d0, .int .u8 (kyOf p).d1, .int .u8 (kyOf p).d2, .int .u8 (kyOf p).d3, .int .i64 (kyOf p).proto, .int .i64 (kyOf p).id].toArray) (fun _ => emp) := key_spec p
/-- Where a key's block is. -/
def ptrOf (es : List (Bg × Nat)) (k : Ky) : Option Addr := (es.find? fun e => decide (e.1.k = k)).map fun e => ad e.2 0
theorem MapIs.ptr {es : List (Bg × Nat)} {f : List Value → Option Value} (h : MapIs es f) (k : Ky) : (f (encKy k)).getD (.pointer none) = .pointer (ptrOf es k) := by
  rw [h.at_]
  unfold ptrOf
  cases es.find? fun e => decide (e.1.k = k) <;> rfl
theorem ptrOf_some {es : List (Bg × Nat)} {k : Ky} : (ptrOf es k).isSome = true ↔ k ∈ keysOf (es.map (·.1)) := by
  unfold ptrOf keysOf
  rw [Option.isSome_map, List.find?_isSome, List.map_map]
  simp only [decide_eq_true_eq, List.mem_map, Function.comp]
theorem begs_filter (q : Bg × Nat → Bool) : ∀ es : List (Bg × Nat), Ent (begs es) (begs (es.filter q))
  | [] => Ent.refl _
  | e :: es => by
    rw [List.filter_cons]
    split
    · exact Ent.frame_left (begs_filter q es) _
    · exact Ent.trans Ent.drop (begs_filter q es)
/-- A packet of a key is given up, if one is begun. -/
def TS.free (T : TS) (k : Ky) : TS := if k ∈ keysOf T.q then ⟨wob T.q k, T.now, T.dr + 1⟩ else T
/-- A packet is begun: what that answers, and what is then. -/
def TS.begn (T : TS) (m : Int) (pk : Pk) : Int × TS :=
  if sndC pk 0 ≠ 0 then (sndC pk 0, T.free (kyOf pk)) else if m ≤ ((T.free (kyOf pk)).q.length : Int) then (22, T.free (kyOf pk)) else (0, ⟨(T.free (kyOf pk)).q ++ [⟨kyOf pk, (T.free (kyOf pk)).now, pk.data⟩], (T.free (kyOf pk)).now, (T.free (kyOf pk)).dr⟩)
theorem wob_sub (q : List Bg) (k : Ky) : (wob q k).Sublist q := List.filter_sublist
theorem mem_wob {q : List Bg} {k : Ky} : k ∉ keysOf (wob q k) := by
  intro h
  obtain ⟨b, hb, e⟩ := List.mem_map.1 h
  have := (List.mem_filter.1 hb).2
  simp [e] at this
theorem wob_lt {q : List Bg} {k : Ky} (h : k ∈ keysOf q) : (wob q k).length + 1 ≤ q.length := by
  obtain ⟨b, hb, e⟩ := List.mem_map.1 h
  have := List.length_filter_lt_length_iff_exists (p := fun b : Bg => !decide (b.k = k)) (l := q)
  have h2 := this.2 ⟨b, hb, by simp [e]⟩
  unfold wob
  omega
theorem free_not {T : TS} {k : Ky} : k ∉ keysOf (T.free k).q := by
  unfold TS.free
  split
  · exact mem_wob
  · assumption
theorem TOk.free {n : Nat} {T : TS} (h : TOk n T) (k : Ky) : TOk n (T.free k) := by
  unfold TS.free
  split
  · rename_i hk
    have hl := wob_lt hk
    have hs := wob_sub T.q k
    have hd := h.dr
    have hn := h.n
    exact ⟨h.now, fun b hb => h.bg b (hs.subset hb), h.nd.sublist (hs.map _), by dsimp only; omega, by dsimp only; omega⟩
  · exact h
theorem snd_size {pk : Pk} {a : Nat} (h : sndC pk a = 0) : a + pk.data.size ≤ 8200 := by
  unfold sndC at h
  split at h
  · cases h
  · split at h
    · cases h
    · split at h
      · cases h
      · omega
theorem begn_bad {T : TS} {m : Int} {pk : Pk} (h : sndC pk 0 ≠ 0) : T.begn m pk = (sndC pk 0, T.free (kyOf pk)) := if_pos h
theorem begn_full {T : TS} {m : Int} {pk : Pk} (h : sndC pk 0 = 0) (h2 : m ≤ ((T.free (kyOf pk)).q.length : Int)) : T.begn m pk = (22, T.free (kyOf pk)) := by unfold TS.begn; rw [if_neg (fun n => n h), if_pos h2]
theorem begn_ok {T : TS} {m : Int} {pk : Pk} (h : sndC pk 0 = 0) (h2 : ¬ m ≤ ((T.free (kyOf pk)).q.length : Int)) : T.begn m pk = (0, ⟨(T.free (kyOf pk)).q ++ [⟨kyOf pk, (T.free (kyOf pk)).now, pk.data⟩], (T.free (kyOf pk)).now, (T.free (kyOf pk)).dr⟩) := by unfold TS.begn; rw [if_neg (fun n => n h), if_neg h2]
set_option maxHeartbeats 800000 in
theorem begin_spec (tp : Nat) (m wt : Int) (T : TS) (pk : Pk) (n : Nat) (hT : TOk n T) (hn : n ≤ 1000000) (hd : pk.data.size ≤ 140737488351232) : FSpec Tryz.prog 50 #[.pointer (some (ad tp 0)), .agg [.int .i64 pk.id, .bool pk.more, .int .i64 pk.off, .int .i64 pk.ttl, .int .i64 pk.proto, .int .u8 pk.s0, .int .u8 pk.s1, .int .u8 pk.s2, .int .u8 pk.s3, .int .u8 pk.d0, .int .u8 pk.d1, .int .u8 pk.d2, .int .u8 pk.d3, .string pk.data].toArray] (TabP tp m wt T) (fun _ : Unit => True) (fun _ => .int .i64 (T.begn m pk).1) (fun _ => TabP tp m wt (T.begn m pk).2) := by
  refine en Tryz.func50 r fun σ F=>sr<|lx r (opx_box (l := [.int .i64 pk.id, .bool pk.more, .int .i64 pk.off, .int .i64 pk.ttl, .int .i64 pk.proto, .int .u8 pk.s0, .int .u8 pk.s1, .int .u8 pk.s2, .int .u8 pk.s3, .int .u8 pk.d0, .int .u8 pk.d1, .int .u8 pk.d2, .int .u8 pk.d3, .string pk.data]) r r) fun b3 _=>an r<|sr<|ls r<|cy (key_specV pk) r fun _=>L_emp<|al r fun b5=>?_
  refine lx r (opx_store r r r (by simp [Value.oneCell'])) fun _ _=>nk ?_
  refine J_cut (X := Unit) (fun _ => [(0, .pointer (some (ad tp 0))), (3, .pointer (some (ad b3 0))), (5, .pointer (some (ad b5 0)))]) (fun _ => (sep (TabP tp m wt (T.free (kyOf pk))) (sep (cel b5 [.int .u8 (kyOf pk).s0, .int .u8 (kyOf pk).s1, .int .u8 (kyOf pk).s2, .int .u8 (kyOf pk).s3, .int .u8 (kyOf pk).d0, .int .u8 (kyOf pk).d1, .int .u8 (kyOf pk).d2, .int .u8 (kyOf pk).d3, .int .i64 (kyOf pk).proto, .int .i64 (kyOf pk).id] 122) (sep (cel b3 [.int .i64 pk.id, .bool pk.more, .int .i64 pk.off, .int .i64 pk.ttl, .int .i64 pk.proto, .int .u8 pk.s0, .int .u8 pk.s1, .int .u8 pk.s2, .int .u8 pk.s3, .int .u8 pk.d0, .int .u8 pk.d1, .int .u8 pk.d2, .int .u8 pk.d3, .string pk.data] 39) (F))))) (fun _ => True) ?_ (fun _ _ => ?_)
  · refine js ?_
    refine J_eq (sep (TabP tp m wt T) (sep (cel b5 [.int .u8 (kyOf pk).s0, .int .u8 (kyOf pk).s1, .int .u8 (kyOf pk).s2, .int .u8 (kyOf pk).s3, .int .u8 (kyOf pk).d0, .int .u8 (kyOf pk).d1, .int .u8 (kyOf pk).d2, .int .u8 (kyOf pk).d3, .int .i64 (kyOf pk).proto, .int .i64 (kyOf pk).id] 122) (sep (cel b3 [.int .i64 pk.id, .bool pk.more, .int .i64 pk.off, .int .i64 pk.ttl, .int .i64 pk.proto, .int .u8 pk.s0, .int .u8 pk.s1, .int .u8 pk.s2, .int .u8 pk.s3, .int .u8 pk.d0, .int .u8 pk.d1, .int .u8 pk.d2, .int .u8 pk.d3, .string pk.data] 39) (F)))) (by ac_rfl) ?_
    refine J_pre _ _ (fun w hs => TabP.sat hs) fun x hx => ?_
    obtain ⟨⟨hx1, hx2⟩, hx3⟩ := hx
    have hT2 := hT.dr
    have hT3 := hT.n
    refine J_quiet Tryz.mixed (by kernel_rfl)<|qb r ?_
    first | refine qz r ?_ | refine qy r ?_
    refine ql r r<|qv (opv_loadS r) r<|qv ((opv_lookup (k := encKy (kyOf pk)) (f := x.2.2.2) r r (shKy _)).as (v' := .pointer (ptrOf x.2.2.1 (kyOf pk))) (hx2.ptr _)) r<|qv (opv_neqNil r r) r<|qn<|kt ?_
    refine J_cond_bool rfl (fun h1 => ?_) (fun h1 => ?_)
    · refine jg<|ea r<|ls r<|cy (drop_raw tp x.1 (.int .i64 m) (.int .i64 wt) (.int .i64 T.now) x.2.1.1 x.2.1.2 (keysOf T.q) x.2.2.2 (kyOf pk) (by rw [keysOf_len]; omega) T.dr (by omega)) r fun z=>ln ?_
      have hmem : (kyOf pk) ∈ keysOf T.q := by rw [← hx1]; exact ptrOf_some.1 h1
      have hfr : (T.free (kyOf pk)) = ⟨wob T.q (kyOf pk), T.now, T.dr + 1⟩ := if_pos hmem
      rw [← keysOf_wob]
      exact K_cut () trivial ⟨rfl, rfl, rfl, trivial⟩ (Ent.trans (Ent.take (Q := (sep (cel tp [.map (some x.1), .slice z.1 (keysOf (wob T.q (kyOf pk))).length z.2, .int .i64 m, .int .i64 wt, .int .i64 T.now, .int .i64 (T.dr + 1)] 96) (sep (mapp x.1 ksKy (mdel x.2.2.2 (encKy (kyOf pk)))) (sep (Own 122 10 (.slice z.1 (keysOf (wob T.q (kyOf pk))).length z.2) (keysOf (wob T.q (kyOf pk))).length (flatK (keysOf (wob T.q (kyOf pk))))) (sep (begs x.2.2.1) (sep (cel b5 [.int .u8 (kyOf pk).s0, .int .u8 (kyOf pk).s1, .int .u8 (kyOf pk).s2, .int .u8 (kyOf pk).s3, .int .u8 (kyOf pk).d0, .int .u8 (kyOf pk).d1, .int .u8 (kyOf pk).d2, .int .u8 (kyOf pk).d3, .int .i64 (kyOf pk).proto, .int .i64 (kyOf pk).id] 122) (sep (cel b3 [.int .i64 pk.id, .bool pk.more, .int .i64 pk.off, .int .i64 pk.ttl, .int .i64 pk.proto, .int .u8 pk.s0, .int .u8 pk.s1, .int .u8 pk.s2, .int .u8 pk.s3, .int .u8 pk.d0, .int .u8 pk.d1, .int .u8 pk.d2, .int .u8 pk.d3, .string pk.data] 39) (F))))))))) (Ent.trans (Ent.frame_left (Ent.frame_left (Ent.frame_left (Ent.frame (begs_filter (fun e => !decide (e.1.k = (kyOf pk))) x.2.2.1) _) _) _) _) (Ent.trans (TabP.fold (T := ⟨wob T.q (kyOf pk), T.now, T.dr + 1⟩) x.1 z (x.2.2.1.filter fun e => !decide (e.1.k = (kyOf pk))) (mdel x.2.2.2 (encKy (kyOf pk))) (by rw [← hx1]; unfold wob; rw [List.filter_map]; rfl) (hx2.del _)) (Ent.of (by rw [hfr])))))
    · refine jk ?_
      have hmem : ¬ (kyOf pk) ∈ keysOf T.q := by rw [← hx1]; intro hh; rw [ptrOf_some.2 hh] at h1; cases h1
      have hfr : (T.free (kyOf pk)) = T := if_neg hmem
      exact K_cut () trivial ⟨rfl, rfl, rfl, trivial⟩ (Ent.trans (Ent.take (Q := (sep (cel tp [.map (some x.1), .slice x.2.1.1 (keysOf T.q).length x.2.1.2, .int .i64 m, .int .i64 wt, .int .i64 T.now, .int .i64 T.dr] 96) (sep (mapp x.1 ksKy x.2.2.2) (sep (Own 122 10 (.slice x.2.1.1 (keysOf T.q).length x.2.1.2) (keysOf T.q).length (flatK (keysOf T.q))) (sep (begs x.2.2.1) (sep (cel b5 [.int .u8 (kyOf pk).s0, .int .u8 (kyOf pk).s1, .int .u8 (kyOf pk).s2, .int .u8 (kyOf pk).s3, .int .u8 (kyOf pk).d0, .int .u8 (kyOf pk).d1, .int .u8 (kyOf pk).d2, .int .u8 (kyOf pk).d3, .int .i64 (kyOf pk).proto, .int .i64 (kyOf pk).id] 122) (sep (cel b3 [.int .i64 pk.id, .bool pk.more, .int .i64 pk.off, .int .i64 pk.ttl, .int .i64 pk.proto, .int .u8 pk.s0, .int .u8 pk.s1, .int .u8 pk.s2, .int .u8 pk.s3, .int .u8 pk.d0, .int .u8 pk.d1, .int .u8 pk.d2, .int .u8 pk.d3, .string pk.data] 39) (F))))))))) (Ent.trans (TabP.fold x.1 x.2.1 x.2.2.1 x.2.2.2 hx1 hx2) (Ent.of (by rw [hfr]))))
  · have hTf := hT.free (kyOf pk)
    have hno := free_not (T := T) (k := (kyOf pk))
    generalize hT1 : (T.free (kyOf pk)) = T1 at hTf hno ⊢
    refine js<|sr<|ls r<|cy (sound_spec pk 0 (by decide) (by omega)) r fun _=>L_emp<|an r<|sa r ?_
    first | refine lv (opv_neq r r) r ?_ | refine lv (opv_neqS r r) r ?_ | refine lv (opv_neqNil r r) r ?_ | refine lv (opv_neqB r r) r ?_
    refine nk ?_
    refine J_cond rfl (fun h2 => ?_) (fun h2 => ?_)
    · refine sb r<|nk<|jr<|kd ?_
      have e := begn_bad (m := m) (T := T) h2
      rw [e, hT1]
      exact K_ret1 rfl rfl () trivial rfl Ent.take
    · refine sk<|js<|js ?_
      refine J_eq (sep (TabP tp m wt T1) (sep (cel b5 [.int .u8 (kyOf pk).s0, .int .u8 (kyOf pk).s1, .int .u8 (kyOf pk).s2, .int .u8 (kyOf pk).s3, .int .u8 (kyOf pk).d0, .int .u8 (kyOf pk).d1, .int .u8 (kyOf pk).d2, .int .u8 (kyOf pk).d3, .int .i64 (kyOf pk).proto, .int .i64 (kyOf pk).id] 122) (sep (cel b3 [.int .i64 pk.id, .bool pk.more, .int .i64 pk.off, .int .i64 pk.ttl, .int .i64 pk.proto, .int .u8 pk.s0, .int .u8 pk.s1, .int .u8 pk.s2, .int .u8 pk.s3, .int .u8 pk.d0, .int .u8 pk.d1, .int .u8 pk.d2, .int .u8 pk.d3, .string pk.data] 39) (F)))) (by ac_rfl) ?_
      refine J_pre _ _ (fun w hs => TabP.sat hs) fun x hx => ?_
      obtain ⟨⟨hx1, hx2⟩, hx3⟩ := hx
      have hs0 : sndC pk 0 = 0 := Classical.not_not.1 h2
      have hsz := snd_size hs0
      have hT2 := hTf.dr
      have hT3 := hTf.n
      have hnew : ∀ e ∈ x.2.2.1, e.1.k ≠ (kyOf pk) := fun e he hk => hno (by rw [← hx1]; exact hk ▸ List.mem_map.2 ⟨e.1, List.mem_map.2 ⟨e, he, rfl⟩, rfl⟩)
      have hkl := keysOf_len T1.q
      refine J_quiet Tryz.mixed (by kernel_rfl)<|qb r ?_
      first | refine qz r ?_ | refine qy r ?_
      refine ql r r ?_
      first | refine qv (opv_lenL r) r ?_ | refine qv (opv_lenS r) r ?_
      refine qb r ?_
      first | refine qz r ?_ | refine qy r ?_
      refine ql r r<|qv ((opv_geq r r).as (v' := .bool (decide (m ≤ (T1.q.length : Int)))) (by rw [keysOf_len])) r<|qn<|kt ?_
      refine J_cond rfl (fun h3 => ?_) (fun h3 => ?_)
      · refine san r<|jr<|kd ?_
        have e := begn_full (m := m) (T := T) hs0 (by rw [hT1]; exact h3)
        rw [e, hT1]
        exact K_ret1 rfl rfl () trivial rfl (Ent.trans (Ent.take (Q := (sep (cel tp [.map (some x.1), .slice x.2.1.1 (keysOf T1.q).length x.2.1.2, .int .i64 m, .int .i64 wt, .int .i64 T1.now, .int .i64 T1.dr] 96) (sep (mapp x.1 ksKy x.2.2.2) (sep (Own 122 10 (.slice x.2.1.1 (keysOf T1.q).length x.2.1.2) (keysOf T1.q).length (flatK (keysOf T1.q))) (sep (begs x.2.2.1) (F))))))) (TabP.fold x.1 x.2.1 x.2.2.1 x.2.2.2 hx1 hx2))
      · refine sk<|js<|J_steps ((sep (cel b3 [.int .i64 pk.id, .bool pk.more, .int .i64 pk.off, .int .i64 pk.ttl, .int .i64 pk.proto, .int .u8 pk.s0, .int .u8 pk.s1, .int .u8 pk.s2, .int .u8 pk.s3, .int .u8 pk.d0, .int .u8 pk.d1, .int .u8 pk.d2, .int .u8 pk.d3, .string pk.data] 39) (sep (cel b5 [.int .u8 (kyOf pk).s0, .int .u8 (kyOf pk).s1, .int .u8 (kyOf pk).s2, .int .u8 (kyOf pk).s3, .int .u8 (kyOf pk).d0, .int .u8 (kyOf pk).d1, .int .u8 (kyOf pk).d2, .int .u8 (kyOf pk).d3, .int .i64 (kyOf pk).proto, .int .i64 (kyOf pk).id] 122) (cel tp [.map (some x.1), .slice x.2.1.1 (keysOf T1.q).length x.2.1.2, .int .i64 m, .int .i64 wt, .int .i64 T1.now, .int .i64 T1.dr] 96)))) ((sep (cel b3 [.int .i64 pk.id, .bool pk.more, .int .i64 pk.off, .int .i64 pk.ttl, .int .i64 pk.proto, .int .u8 pk.s0, .int .u8 pk.s1, .int .u8 pk.s2, .int .u8 pk.s3, .int .u8 pk.d0, .int .u8 pk.d1, .int .u8 pk.d2, .int .u8 pk.d3, .string pk.data] 39) (sep (cel b5 [.int .u8 (kyOf pk).s0, .int .u8 (kyOf pk).s1, .int .u8 (kyOf pk).s2, .int .u8 (kyOf pk).s3, .int .u8 (kyOf pk).d0, .int .u8 (kyOf pk).d1, .int .u8 (kyOf pk).d2, .int .u8 (kyOf pk).d3, .int .i64 (kyOf pk).proto, .int .i64 (kyOf pk).id] 122) (cel tp [.map (some x.1), .slice x.2.1.1 (keysOf T1.q).length x.2.1.2, .int .i64 m, .int .i64 wt, .int .i64 T1.now, .int .i64 T1.dr] 96)))) [] Tryz.mixed<|pe 0 r r<|pe 1 r r ?_
        first | refine ps 2 r (opv_fieldAddr0 r) ?_ | refine ps 2 r (opv_fieldAddr r) ?_
        refine R_ts 3 r (by kernel_rfl) (opv_load r (Rd.look r)) r<|R_ts 4 r (by kernel_rfl) (opv_loadS r) r<|pe 5 r r<|pe 6 r r ?_
        first | refine ps 7 r (opv_fieldAddr0 r) ?_ | refine ps 7 r (opv_fieldAddr r) ?_
        refine R_ts 8 r (by kernel_rfl) (opv_load r (Rd.look r)) r ?_
        first | refine ps 9 r (opv_fieldAddr0 r) ?_ | refine ps 9 r (opv_fieldAddr r) ?_
        refine R_ts 10 r (by kernel_rfl) (opv_load r (Rd.look r)) r<|pn 11 r (opx_s2bB r (by unfold maxLen; omega) r) fun y45 _=>ps 12 r (opv_build r)<|pn 13 r (opx_box r r) fun b47 _=>pn 14 r (opx_mapUpdate (k := encKy (kyOf pk)) (f := x.2.2.2) r r r (shKy _)) fun _ _=>dn<|kt<|js<|J_steps (cel b5 [.int .u8 (kyOf pk).s0, .int .u8 (kyOf pk).s1, .int .u8 (kyOf pk).s2, .int .u8 (kyOf pk).s3, .int .u8 (kyOf pk).d0, .int .u8 (kyOf pk).d1, .int .u8 (kyOf pk).d2, .int .u8 (kyOf pk).d3, .int .i64 (kyOf pk).proto, .int .i64 (kyOf pk).id] 122) ((sep (cel b5 [.int .u8 (kyOf pk).s0, .int .u8 (kyOf pk).s1, .int .u8 (kyOf pk).s2, .int .u8 (kyOf pk).s3, .int .u8 (kyOf pk).d0, .int .u8 (kyOf pk).d1, .int .u8 (kyOf pk).d2, .int .u8 (kyOf pk).d3, .int .i64 (kyOf pk).proto, .int .i64 (kyOf pk).id] 122) (cel tp [.map (some x.1), .slice x.2.1.1 (keysOf T1.q).length x.2.1.2, .int .i64 m, .int .i64 wt, .int .i64 T1.now, .int .i64 T1.dr] 96))) [10] Tryz.mixed<|pe 0 r r<|pe 1 r r<|pe 2 r r ?_
        first | refine ps 3 r (opv_fieldAddr0 r) ?_ | refine ps 3 r (opv_fieldAddr r) ?_
        refine R_ts 4 r (by kernel_rfl) (opv_load r (Rd.look r)) r<|R_ts 5 r (by kernel_rfl) (opv_loadS r) r<|pn 6 r (opx_buildSlice1 (m := 10) r r (by omega) (by omega) r) fun b54 _=>pn 7 r (opx_append (m := 10) (B := 24) r r (Src.lit) r (by omega) r (by simp [Value.oneCell']) (by unfold maxLen; omega) (by omega) r) fun y55 _=>pe 8 r r ?_
        first | refine ps 9 r (opv_fieldAddr0 r) ?_ | refine ps 9 r (opv_fieldAddr r) ?_
        refine R_o 10 r r (by kernel_rfl) (opx_store r r r (by simp [Value.oneCell'])) fun _ _=>dn<|kt<|san r<|jr ?_
        have e := begn_ok (m := m) (T := T) hs0 (by rw [hT1]; exact h3)
        rw [e, hT1]
        have e1 : flatK (keysOf T1.q) ++ [.int .u8 (kyOf pk).s0, .int .u8 (kyOf pk).s1, .int .u8 (kyOf pk).s2, .int .u8 (kyOf pk).s3, .int .u8 (kyOf pk).d0, .int .u8 (kyOf pk).d1, .int .u8 (kyOf pk).d2, .int .u8 (kyOf pk).d3, .int .i64 (kyOf pk).proto, .int .i64 (kyOf pk).id] = flatK (keysOf (T1.q ++ [(⟨(kyOf pk), T1.now, pk.data⟩ : Bg)])) := by unfold keysOf flatK; rw [List.map_append, List.flatMap_append]; rfl
        have e2 : (keysOf T1.q).length + 1 = (keysOf (T1.q ++ [(⟨(kyOf pk), T1.now, pk.data⟩ : Bg)])).length := by rw [keysOf_len, keysOf_len]; simp
        rw [e1, e2]
        exact K_ret1 rfl rfl () trivial rfl (Ent.trans (Ent.take (Q := (sep (cel b47 [.int .i64 T1.now, .slice y45.1 pk.data.size y45.2] 127) (sep (OwnB 5 y45 pk.data) (sep (cel tp [.map (some x.1), .slice y55.1 (keysOf (T1.q ++ [(⟨(kyOf pk), T1.now, pk.data⟩ : Bg)])).length y55.2, .int .i64 m, .int .i64 wt, .int .i64 T1.now, .int .i64 T1.dr] 96) (sep (mapp x.1 ksKy (mput x.2.2.2 (encKy (kyOf pk)) (.pointer (some (ad b47 0))))) (sep (Own 122 10 (.slice y55.1 (keysOf (T1.q ++ [(⟨(kyOf pk), T1.now, pk.data⟩ : Bg)])).length y55.2) (keysOf (T1.q ++ [(⟨(kyOf pk), T1.now, pk.data⟩ : Bg)])).length (flatK (keysOf (T1.q ++ [(⟨(kyOf pk), T1.now, pk.data⟩ : Bg)])))) (sep (begs x.2.2.1) (F))))))))) (Ent.trans (begP.fold (e := ((⟨(kyOf pk), T1.now, pk.data⟩ : Bg), b47)) y45) (Ent.trans (Ent.of (Q := (sep (cel tp [.map (some x.1), .slice y55.1 (keysOf (T1.q ++ [(⟨(kyOf pk), T1.now, pk.data⟩ : Bg)])).length y55.2, .int .i64 m, .int .i64 wt, .int .i64 T1.now, .int .i64 T1.dr] 96) (sep (mapp x.1 ksKy (mput x.2.2.2 (encKy (kyOf pk)) (.pointer (some (ad b47 0))))) (sep (Own 122 10 (.slice y55.1 (keysOf (T1.q ++ [(⟨(kyOf pk), T1.now, pk.data⟩ : Bg)])).length y55.2) (keysOf (T1.q ++ [(⟨(kyOf pk), T1.now, pk.data⟩ : Bg)])).length (flatK (keysOf (T1.q ++ [(⟨(kyOf pk), T1.now, pk.data⟩ : Bg)])))) (sep (begs (x.2.2.1 ++ [((⟨(kyOf pk), T1.now, pk.data⟩ : Bg), b47)])) (F)))))) (by rw [begs_app, begs_one]; ac_rfl)) (TabP.fold (T := ⟨(T1.q ++ [(⟨(kyOf pk), T1.now, pk.data⟩ : Bg)]), T1.now, T1.dr⟩) x.1 y55 (x.2.2.1 ++ [((⟨(kyOf pk), T1.now, pk.data⟩ : Bg), b47)]) _ (by rw [List.map_append, hx1]; rfl) (hx2.put (⟨(kyOf pk), T1.now, pk.data⟩ : Bg) b47 hnew)))))
end Go.Proofs.YtpkcniedaabpoaaGreat
namespace Go.Proofs.YtpkcniedaabpoaaGreat
open Go.SLA
set_option maxRecDepth 100000
attribute [local irreducible] J L K QL Rg FSpec OpV OpX Rd Back
def upd (q : List Bg) (k : Ky) (d : ByteArray) : List Bg := q.map fun b => if b.k = k then ⟨b.k, b.t, b.data ++ d⟩ else b
theorem keysOf_upd (q : List Bg) (k : Ky) (d : ByteArray) : keysOf (upd q k d) = keysOf q := by
  unfold keysOf upd
  rw [List.map_map]
  refine List.map_congr_left fun b _ => ?_
  show (if b.k = k then (⟨b.k, b.t, b.data ++ d⟩ : Bg) else b).k = b.k
  split <;> rfl
def bfind (q : List Bg) (k : Ky) : Option Bg := q.find? fun b => decide (b.k = k)
/-- The begun one of a key, among blocks. -/
theorem mid {es : List (Bg × Nat)} {q : List Bg} {k : Ky} {b : Bg} (h : es.map (·.1) = q) (hf : bfind q k = some b) : ∃ l1 n l2, es = l1 ++ (b, n) :: l2 ∧ b.k = k ∧ ∀ e ∈ l1, e.1.k ≠ k := by
  unfold bfind at hf
  rw [← h, List.find?_map] at hf
  cases hg : es.find? ((fun b : Bg => decide (b.k = k)) ∘ fun e : Bg × Nat => e.1) with
  | none => rw [hg] at hf; cases hf
  | some e =>
    rw [hg] at hf
    simp only [Option.map_some, Option.some.injEq] at hf
    obtain ⟨h1, l1, l2, h2, h3⟩ := List.find?_eq_some_iff_append.1 hg
    subst hf
    refine ⟨l1, e.2, l2, h2, by simpa using h1, fun a ha => ?_⟩
    have := h3 a ha
    simpa using this
theorem mid_ptr {l1 l2 : List (Bg × Nat)} {b : Bg} {n : Nat} {k : Ky} (hk : b.k = k) (h1 : ∀ e ∈ l1, e.1.k ≠ k) : ptrOf (l1 ++ (b, n) :: l2) k = some (ad n 0) := by
  unfold ptrOf
  rw [List.find?_append]
  have : (l1.find? fun e => decide (e.1.k = k)) = none := by
    rw [List.find?_eq_none]
    intro a ha
    simp [h1 a ha]
  rw [this]
  simp [List.find?_cons, hk]
theorem mid_rest {l1 l2 : List (Bg × Nat)} {b : Bg} {n : Nat} {k : Ky} (hk : b.k = k) (hn : (keysOf ((l1 ++ (b, n) :: l2).map (·.1))).Nodup) : ∀ e ∈ l2, e.1.k ≠ k := by
  intro e he hek
  unfold keysOf at hn
  rw [List.map_append, List.map_append, List.map_cons, List.map_cons] at hn
  have h2 := (List.nodup_append.1 hn).2.1
  have h3 := (List.nodup_cons.1 h2).1
  exact h3 (by rw [hk, ← hek]; exact List.mem_map.2 ⟨e.1, List.mem_map.2 ⟨e, he, rfl⟩, rfl⟩)
theorem filt_no {l : List (Bg × Nat)} {k : Ky} (h : ∀ e ∈ l, e.1.k ≠ k) : (l.filter fun e => !decide (e.1.k = k)) = l := by
  rw [List.filter_eq_self]
  intro a ha
  simp [h a ha]
theorem mid_filt {l1 l2 : List (Bg × Nat)} {b : Bg} {n : Nat} {k : Ky} (hk : b.k = k) (h1 : ∀ e ∈ l1, e.1.k ≠ k) (h2 : ∀ e ∈ l2, e.1.k ≠ k) : ((l1 ++ (b, n) :: l2).filter fun e => !decide (e.1.k = k)) = l1 ++ l2 := by
  rw [List.filter_append, filt_no h1, List.filter_cons, if_neg (by simp [hk]), filt_no h2]
theorem upd_no {l : List (Bg × Nat)} {k : Ky} {d : ByteArray} (h : ∀ e ∈ l, e.1.k ≠ k) : upd (l.map (·.1)) k d = l.map (·.1) := by
  unfold upd
  rw [List.map_map]
  refine List.map_congr_left fun a ha => ?_
  show (if a.1.k = k then (⟨a.1.k, a.1.t, a.1.data ++ d⟩ : Bg) else a.1) = a.1
  rw [if_neg (h a ha)]
theorem mid_upd {l1 l2 : List (Bg × Nat)} {b : Bg} {n : Nat} {k : Ky} {d : ByteArray} (hk : b.k = k) (h1 : ∀ e ∈ l1, e.1.k ≠ k) (h2 : ∀ e ∈ l2, e.1.k ≠ k) : upd ((l1 ++ (b, n) :: l2).map (·.1)) k d = (l1 ++ ((⟨b.k, b.t, b.data ++ d⟩ : Bg), n) :: l2).map (·.1) := by
  rw [List.map_append, List.map_append, List.map_cons, List.map_cons, ← upd_no (d := d) h1, ← upd_no (d := d) h2]
  have e : upd (upd (l1.map (·.1)) k d ++ b :: upd (l2.map (·.1)) k d) k d = upd (upd (l1.map (·.1)) k d) k d ++ ((if b.k = k then (⟨b.k, b.t, b.data ++ d⟩ : Bg) else b) :: upd (upd (l2.map (·.1)) k d) k d) := by
    show List.map _ (_ ++ _) = _
    rw [List.map_append, List.map_cons]
    rfl
  rw [e, if_pos hk, upd_no h1, upd_no h2, upd_no h1, upd_no h2]
theorem MapIs.upd {l1 l2 : List (Bg × Nat)} {b b' : Bg} {n : Nat} {f : List Value → Option Value} (h : MapIs (l1 ++ (b, n) :: l2) f) (hk : b'.k = b.k) : MapIs (l1 ++ (b', n) :: l2) f := by
  refine ⟨?_, fun k' => ?_⟩
  · have e : keysOf ((l1 ++ (b', n) :: l2).map (·.1)) = keysOf ((l1 ++ (b, n) :: l2).map (·.1)) := by
      unfold keysOf
      simp [hk]
    rw [e]; exact h.nd
  · rw [h.at_, List.find?_append, List.find?_append, List.find?_cons, List.find?_cons]
    rw [show ((b', n) : Bg × Nat).1.k = ((b, n) : Bg × Nat).1.k from hk]
    cases l1.find? fun e => decide (e.1.k = k') with
    | some e => rfl
    | none =>
      show Option.map _ (match decide (((b, n) : Bg × Nat).1.k = k') with | true => some (b, n) | false => _) = _
      cases decide (((b, n) : Bg × Nat).1.k = k') <;> rfl
theorem Put_bad (tp : Nat) (m wt : Int) (T : TS) (now : Int) (pk : Pk) (h : timC T.now now ≠ 0) : FSpec Tryz.prog 15 #[.pointer (some (ad tp 0)), .int .i64 now, .agg [.int .i64 pk.id, .bool pk.more, .int .i64 pk.off, .int .i64 pk.ttl, .int .i64 pk.proto, .int .u8 pk.s0, .int .u8 pk.s1, .int .u8 pk.s2, .int .u8 pk.s3, .int .u8 pk.d0, .int .u8 pk.d1, .int .u8 pk.d2, .int .u8 pk.d3, .string pk.data].toArray] (TabP tp m wt T) (fun _ : Unit => True) (fun _ => .tuple #[.agg [.int .i64 0, .bool false, .int .i64 0, .int .i64 0, .int .i64 0, .int .u8 0, .int .u8 0, .int .u8 0, .int .u8 0, .int .u8 0, .int .u8 0, .int .u8 0, .int .u8 0, .string ⟨#[]⟩].toArray, .bool false, .int .i64 (timC T.now now)]) (fun _ => TabP tp m wt T) := by
  refine en Tryz.func15 r fun σ F=>sr<|lx r (opx_box (l := [.int .i64 pk.id, .bool pk.more, .int .i64 pk.off, .int .i64 pk.ttl, .int .i64 pk.proto, .int .u8 pk.s0, .int .u8 pk.s1, .int .u8 pk.s2, .int .u8 pk.s3, .int .u8 pk.d0, .int .u8 pk.d1, .int .u8 pk.d2, .int .u8 pk.d3, .string pk.data]) r r) fun b5 _=>al r fun b6=>eb r<|nj<|sb r<|cy (Pass_bad tp m wt T now h) r fun _=>an r<|sa r<|lv ((opv_neq r r).bool_t h) r<|nt r<|sr<|lv (opv_build r) r<|ea r ?_
  refine lx r (opx_store r r r (by simp [Value.oneCell'])) fun _ _=>eb r<|nk<|jr<|kd ?_
  exact K_ret3c rfl rfl rfl rfl rfl () trivial rfl Ent.take
theorem Put_whole (tp : Nat) (m wt : Int) (T : TS) (now : Int) (pk : Pk) (h : timC T.now now = 0) (n : Nat) (hT : TOk n T) (hn : n ≤ 1000000) (hwt : 0 ≤ wt ∧ wt ≤ 1125899906842624) (hd : pk.data.size ≤ 140737488351232) (ho : pk.off = 0) (hm : pk.more = false) : FSpec Tryz.prog 15 #[.pointer (some (ad tp 0)), .int .i64 now, .agg [.int .i64 pk.id, .bool pk.more, .int .i64 pk.off, .int .i64 pk.ttl, .int .i64 pk.proto, .int .u8 pk.s0, .int .u8 pk.s1, .int .u8 pk.s2, .int .u8 pk.s3, .int .u8 pk.d0, .int .u8 pk.d1, .int .u8 pk.d2, .int .u8 pk.d3, .string pk.data].toArray] (TabP tp m wt T) (fun _ : Unit => True) (fun _ => .tuple #[.agg [.int .i64 pk.id, .bool pk.more, .int .i64 pk.off, .int .i64 pk.ttl, .int .i64 pk.proto, .int .u8 pk.s0, .int .u8 pk.s1, .int .u8 pk.s2, .int .u8 pk.s3, .int .u8 pk.d0, .int .u8 pk.d1, .int .u8 pk.d2, .int .u8 pk.d3, .string pk.data].toArray, .bool true, .int .i64 0]) (fun _ => TabP tp m wt (T.pass wt now)) := by
  refine en Tryz.func15 r fun σ F=>sr<|lx r (opx_box (l := [.int .i64 pk.id, .bool pk.more, .int .i64 pk.off, .int .i64 pk.ttl, .int .i64 pk.proto, .int .u8 pk.s0, .int .u8 pk.s1, .int .u8 pk.s2, .int .u8 pk.s3, .int .u8 pk.d0, .int .u8 pk.d1, .int .u8 pk.d2, .int .u8 pk.d3, .string pk.data]) r r) fun b5 _=>al r fun b6=>eb r<|nj<|sb r<|cy (Pass_ok tp m wt T now h n hT hn hwt) r fun _=>an r<|sa r<|lv ((opv_neq r r).bool_f (by decide)) r<|nf r<|sk<|js<|jb<|sr ?_
  first | refine fz r ?_ | refine fy r ?_
  refine ld r r<|lv ((opv_eql r r).bool_t ho) r<|ea r<|go r ?_
  first | refine fz r ?_ | refine fy r ?_
  refine go r<|lv ((opv_load r (Rd.look r)).as (v' := .bool false) (by rw [hm])) r<|go r<|lv (opv_not r) r ?_
  first | refine ea r ?_ | refine lv (opv_pick r r r) r ?_
  refine an r<|ct r<|sr<|ls r ?_
  refine lx r (opx_store r r r (by simp [Value.oneCell'])) fun _ _=>eb r<|nk<|jr<|kq<|kd ?_
  exact K_ret3c rfl rfl rfl rfl rfl () trivial rfl Ent.take
theorem Put_begin (tp : Nat) (m wt : Int) (T : TS) (now : Int) (pk : Pk) (h : timC T.now now = 0) (n : Nat) (hT : TOk n T) (hn : n ≤ 1000000) (hwt : 0 ≤ wt ∧ wt ≤ 1125899906842624) (hd : pk.data.size ≤ 140737488351232) (ho : pk.off = 0) (hm : pk.more = true) (hT1 : TOk n (T.pass wt now)) : FSpec Tryz.prog 15 #[.pointer (some (ad tp 0)), .int .i64 now, .agg [.int .i64 pk.id, .bool pk.more, .int .i64 pk.off, .int .i64 pk.ttl, .int .i64 pk.proto, .int .u8 pk.s0, .int .u8 pk.s1, .int .u8 pk.s2, .int .u8 pk.s3, .int .u8 pk.d0, .int .u8 pk.d1, .int .u8 pk.d2, .int .u8 pk.d3, .string pk.data].toArray] (TabP tp m wt T) (fun _ : Unit => True) (fun _ => .tuple #[.agg [.int .i64 0, .bool false, .int .i64 0, .int .i64 0, .int .i64 0, .int .u8 0, .int .u8 0, .int .u8 0, .int .u8 0, .int .u8 0, .int .u8 0, .int .u8 0, .int .u8 0, .string ⟨#[]⟩].toArray, .bool false, .int .i64 ((T.pass wt now).begn m pk).1]) (fun _ => TabP tp m wt ((T.pass wt now).begn m pk).2) := by
  refine en Tryz.func15 r fun σ F=>sr<|lx r (opx_box (l := [.int .i64 pk.id, .bool pk.more, .int .i64 pk.off, .int .i64 pk.ttl, .int .i64 pk.proto, .int .u8 pk.s0, .int .u8 pk.s1, .int .u8 pk.s2, .int .u8 pk.s3, .int .u8 pk.d0, .int .u8 pk.d1, .int .u8 pk.d2, .int .u8 pk.d3, .string pk.data]) r r) fun b5 _=>al r fun b6=>eb r<|nj<|sb r<|cy (Pass_ok tp m wt T now h n hT hn hwt) r fun _=>an r<|sa r<|lv ((opv_neq r r).bool_f (by decide)) r<|nf r<|sk<|js<|jb<|sr ?_
  first | refine fz r ?_ | refine fy r ?_
  refine ld r r<|lv ((opv_eql r r).bool_t ho) r<|ea r<|go r ?_
  first | refine fz r ?_ | refine fy r ?_
  refine go r<|lv ((opv_load r (Rd.look r)).as (v' := .bool true) (by rw [hm])) r<|go r<|lv (opv_not r) r ?_
  first | refine ea r ?_ | refine lv (opv_pick r r r) r ?_
  refine an r<|cf r<|sr ?_
  first | refine fz r ?_ | refine fy r ?_
  refine ld r r<|lv ((opv_eql r r).bool_t ho) r<|an r<|ct r<|sr<|lv (opv_build r) r<|ea r<|ls r<|cy (begin_spec tp m wt (T.pass wt now) pk n hT1 hn hd) r fun _=>?_
  refine lx r (opx_store r r r (by simp [Value.oneCell'])) fun _ _=>eb r<|nk<|jr<|kq<|kd ?_
  exact K_ret3c rfl rfl rfl rfl rfl () trivial rfl Ent.take
theorem Put_none (tp : Nat) (m wt : Int) (T : TS) (now : Int) (pk : Pk) (h : timC T.now now = 0) (n : Nat) (hT : TOk n T) (hn : n ≤ 1000000) (hwt : 0 ≤ wt ∧ wt ≤ 1125899906842624) (hd : pk.data.size ≤ 140737488351232) (ho : pk.off ≠ 0) (hf : bfind (T.pass wt now).q (kyOf pk) = none) : FSpec Tryz.prog 15 #[.pointer (some (ad tp 0)), .int .i64 now, .agg [.int .i64 pk.id, .bool pk.more, .int .i64 pk.off, .int .i64 pk.ttl, .int .i64 pk.proto, .int .u8 pk.s0, .int .u8 pk.s1, .int .u8 pk.s2, .int .u8 pk.s3, .int .u8 pk.d0, .int .u8 pk.d1, .int .u8 pk.d2, .int .u8 pk.d3, .string pk.data].toArray] (TabP tp m wt T) (fun _ : Unit => True) (fun _ => .tuple #[.agg [.int .i64 0, .bool false, .int .i64 0, .int .i64 0, .int .i64 0, .int .u8 0, .int .u8 0, .int .u8 0, .int .u8 0, .int .u8 0, .int .u8 0, .int .u8 0, .int .u8 0, .string ⟨#[]⟩].toArray, .bool false, .int .i64 25]) (fun _ => TabP tp m wt (T.pass wt now)) := by
  refine en Tryz.func15 r fun σ F=>sr<|lx r (opx_box (l := [.int .i64 pk.id, .bool pk.more, .int .i64 pk.off, .int .i64 pk.ttl, .int .i64 pk.proto, .int .u8 pk.s0, .int .u8 pk.s1, .int .u8 pk.s2, .int .u8 pk.s3, .int .u8 pk.d0, .int .u8 pk.d1, .int .u8 pk.d2, .int .u8 pk.d3, .string pk.data]) r r) fun b5 _=>al r fun b6=>eb r<|nj<|sb r<|cy (Pass_ok tp m wt T now h n hT hn hwt) r fun _=>an r<|sa r<|lv ((opv_neq r r).bool_f (by decide)) r<|nf r<|sk<|js<|jb<|sr ?_
  first | refine fz r ?_ | refine fy r ?_
  refine ld r r<|lv ((opv_eql r r).bool_f ho) r<|ea r ?_
  refine L_gskip rfl rfl rfl ?_ (fun _ h => by cases h; rfl)
  refine L_gskip rfl rfl rfl ?_ (fun _ h => by cases h; rfl)
  refine L_gskip rfl rfl rfl ?_ (fun _ h => by cases h; rfl)
  first | refine ea r ?_ | refine lv (opv_pick r r r) r ?_
  refine an r<|cf r<|sr ?_
  first | refine fz r ?_ | refine fy r ?_
  refine ld r r<|lv ((opv_eql r r).bool_f ho) r<|an r<|cf r<|skb<|sr<|ls r<|cy (key_specV pk) r fun _=>L_emp<|al r fun b10=>?_
  refine lx r (opx_store r r r (by simp [Value.oneCell'])) fun _ _=>nj ?_
  refine J_eq (sep (TabP tp m wt (T.pass wt now)) (sep (cel b10 [.int .u8 (kyOf pk).s0, .int .u8 (kyOf pk).s1, .int .u8 (kyOf pk).s2, .int .u8 (kyOf pk).s3, .int .u8 (kyOf pk).d0, .int .u8 (kyOf pk).d1, .int .u8 (kyOf pk).d2, .int .u8 (kyOf pk).d3, .int .i64 (kyOf pk).proto, .int .i64 (kyOf pk).id] 122) (sep (cel b6 [.int .i64 0, .bool false, .int .i64 0, .int .i64 0, .int .i64 0, .int .u8 0, .int .u8 0, .int .u8 0, .int .u8 0, .int .u8 0, .int .u8 0, .int .u8 0, .int .u8 0, .string ⟨#[]⟩] 39) (sep (cel b5 [.int .i64 pk.id, .bool pk.more, .int .i64 pk.off, .int .i64 pk.ttl, .int .i64 pk.proto, .int .u8 pk.s0, .int .u8 pk.s1, .int .u8 pk.s2, .int .u8 pk.s3, .int .u8 pk.d0, .int .u8 pk.d1, .int .u8 pk.d2, .int .u8 pk.d3, .string pk.data] 39) (F))))) (by ac_rfl) ?_
  refine J_pre _ _ (fun w hs => TabP.sat hs) fun x hx => ?_
  obtain ⟨⟨hx1, hx2⟩, hx3⟩ := hx
  have hpn : ptrOf x.2.2.1 (kyOf pk) = none := by unfold ptrOf; unfold bfind at hf; rw [← hx1, List.find?_map] at hf; rw [show (x.2.2.1.find? fun e => decide (e.1.k = (kyOf pk))) = none from Option.map_eq_none_iff.1 hf]; rfl
  refine J_quiet Tryz.mixed (by kernel_rfl)<|qb r ?_
  first | refine qz r ?_ | refine qy r ?_
  refine ql r r<|qv (opv_loadS r) r<|qv (((opv_lookup (k := encKy (kyOf pk)) (f := x.2.2.2) r r (shKy _)).as (v' := .pointer (ptrOf x.2.2.1 (kyOf pk))) (hx2.ptr _)).as (v' := .pointer none) (congrArg Value.pointer hpn)) r<|qa r<|qn<|kt<|js<|sa r ?_
  first | refine lv (opv_eql r r) r ?_ | refine lv (opv_eqlS r r) r ?_ | refine lv (opv_eqlNil r r) r ?_ | refine lv (opv_eqlB r r) r ?_
  refine nt r<|sr<|lv (opv_build r) r ?_
  refine lx r (opx_store r r r (by simp [Value.oneCell'])) fun _ _=>eb r<|nk<|jr<|kd ?_
  exact K_ret3c rfl rfl rfl rfl rfl () trivial rfl (Ent.trans (Ent.take (Q := (sep (cel tp [.map (some x.1), .slice x.2.1.1 (keysOf (T.pass wt now).q).length x.2.1.2, .int .i64 m, .int .i64 wt, .int .i64 (T.pass wt now).now, .int .i64 (T.pass wt now).dr] 96) (sep (mapp x.1 ksKy x.2.2.2) (sep (Own 122 10 (.slice x.2.1.1 (keysOf (T.pass wt now).q).length x.2.1.2) (keysOf (T.pass wt now).q).length (flatK (keysOf (T.pass wt now).q))) (sep (begs x.2.2.1) (F))))))) (TabP.fold x.1 x.2.1 x.2.2.1 x.2.2.2 hx1 hx2))
set_option maxHeartbeats 800000 in
theorem Put_wrong (tp : Nat) (m wt : Int) (T : TS) (now : Int) (pk : Pk) (h : timC T.now now = 0) (n : Nat) (hT : TOk n T) (hn : n ≤ 1000000) (hwt : 0 ≤ wt ∧ wt ≤ 1125899906842624) (hd : pk.data.size ≤ 140737488351232) (ho : pk.off ≠ 0) (b : Bg) (hf : bfind (T.pass wt now).q (kyOf pk) = some b) (hT1 : TOk n (T.pass wt now)) (hs : sndC pk b.data.size ≠ 0) : FSpec Tryz.prog 15 #[.pointer (some (ad tp 0)), .int .i64 now, .agg [.int .i64 pk.id, .bool pk.more, .int .i64 pk.off, .int .i64 pk.ttl, .int .i64 pk.proto, .int .u8 pk.s0, .int .u8 pk.s1, .int .u8 pk.s2, .int .u8 pk.s3, .int .u8 pk.d0, .int .u8 pk.d1, .int .u8 pk.d2, .int .u8 pk.d3, .string pk.data].toArray] (TabP tp m wt T) (fun _ : Unit => True) (fun _ => .tuple #[.agg [.int .i64 0, .bool false, .int .i64 0, .int .i64 0, .int .i64 0, .int .u8 0, .int .u8 0, .int .u8 0, .int .u8 0, .int .u8 0, .int .u8 0, .int .u8 0, .int .u8 0, .string ⟨#[]⟩].toArray, .bool false, .int .i64 (sndC pk b.data.size)]) (fun _ => TabP tp m wt (⟨(wob (T.pass wt now).q (kyOf pk)), (T.pass wt now).now, (T.pass wt now).dr + 1⟩ : TS)) := by
  refine en Tryz.func15 rfl fun σ F=>sr<|lx rfl (opx_box (l := [.int .i64 pk.id, .bool pk.more, .int .i64 pk.off, .int .i64 pk.ttl, .int .i64 pk.proto, .int .u8 pk.s0, .int .u8 pk.s1, .int .u8 pk.s2, .int .u8 pk.s3, .int .u8 pk.d0, .int .u8 pk.d1, .int .u8 pk.d2, .int .u8 pk.d3, .string pk.data]) rfl rfl) fun b5 _=>al rfl fun b6=>eb rfl<|nj<|sb rfl<|cy (Pass_ok tp m wt T now h n hT hn hwt) rfl fun _=>an rfl<|sa rfl<|lv ((opv_neq rfl rfl).bool_f (by decide)) rfl<|nf rfl<|sk<|js<|jb<|sr ?_
  first | refine fz rfl ?_ | refine fy rfl ?_
  refine ld rfl rfl<|lv ((opv_eql rfl rfl).bool_f ho) rfl<|ea rfl ?_
  refine L_gskip rfl rfl rfl ?_ (fun _ h => by cases h; rfl)
  refine L_gskip rfl rfl rfl ?_ (fun _ h => by cases h; rfl)
  refine L_gskip rfl rfl rfl ?_ (fun _ h => by cases h; rfl)
  first | refine ea rfl ?_ | refine lv (opv_pick rfl rfl rfl) rfl ?_
  refine an rfl<|cf rfl<|sr ?_
  first | refine fz rfl ?_ | refine fy rfl ?_
  refine ld rfl rfl<|lv ((opv_eql rfl rfl).bool_f ho) rfl<|an rfl<|cf rfl<|skb<|sr<|ls rfl<|cy (key_specV pk) rfl fun _=>L_emp<|al rfl fun b10=>?_
  refine lx rfl (opx_store rfl rfl rfl (by simp [Value.oneCell'])) fun _ _=>nj ?_
  refine J_eq (sep (TabP tp m wt (T.pass wt now)) (sep (cel b10 [.int .u8 (kyOf pk).s0, .int .u8 (kyOf pk).s1, .int .u8 (kyOf pk).s2, .int .u8 (kyOf pk).s3, .int .u8 (kyOf pk).d0, .int .u8 (kyOf pk).d1, .int .u8 (kyOf pk).d2, .int .u8 (kyOf pk).d3, .int .i64 (kyOf pk).proto, .int .i64 (kyOf pk).id] 122) (sep (cel b6 [.int .i64 0, .bool false, .int .i64 0, .int .i64 0, .int .i64 0, .int .u8 0, .int .u8 0, .int .u8 0, .int .u8 0, .int .u8 0, .int .u8 0, .int .u8 0, .int .u8 0, .string ⟨#[]⟩] 39) (sep (cel b5 [.int .i64 pk.id, .bool pk.more, .int .i64 pk.off, .int .i64 pk.ttl, .int .i64 pk.proto, .int .u8 pk.s0, .int .u8 pk.s1, .int .u8 pk.s2, .int .u8 pk.s3, .int .u8 pk.d0, .int .u8 pk.d1, .int .u8 pk.d2, .int .u8 pk.d3, .string pk.data] 39) (F))))) (by ac_rfl) ?_
  refine J_pre _ _ (fun w hs => TabP.sat hs) fun x hx => ?_
  obtain ⟨⟨hx1, hx2⟩, hx3⟩ := hx
  obtain ⟨r, a, es, f⟩ := x
  dsimp only at hx1 hx2 hx3
  obtain ⟨l1, nb, l2, hes, hbk, hl1⟩ := mid hx1 hf
  subst hes
  have hl2 := mid_rest hbk hx2.nd
  refine J_eq (sep (begP (b, nb)) (sep (cel tp [.map (some r), .slice a.1 (keysOf (T.pass wt now).q).length a.2, .int .i64 m, .int .i64 wt, .int .i64 (T.pass wt now).now, .int .i64 (T.pass wt now).dr] 96) (sep (mapp r ksKy f) (sep (Own 122 10 (.slice a.1 (keysOf (T.pass wt now).q).length a.2) (keysOf (T.pass wt now).q).length (flatK (keysOf (T.pass wt now).q))) (sep (begs l1) (sep (begs l2) (sep (cel b10 [.int .u8 (kyOf pk).s0, .int .u8 (kyOf pk).s1, .int .u8 (kyOf pk).s2, .int .u8 (kyOf pk).s3, .int .u8 (kyOf pk).d0, .int .u8 (kyOf pk).d1, .int .u8 (kyOf pk).d2, .int .u8 (kyOf pk).d3, .int .i64 (kyOf pk).proto, .int .i64 (kyOf pk).id] 122) (sep (cel b6 [.int .i64 0, .bool false, .int .i64 0, .int .i64 0, .int .i64 0, .int .u8 0, .int .u8 0, .int .u8 0, .int .u8 0, .int .u8 0, .int .u8 0, .int .u8 0, .int .u8 0, .string ⟨#[]⟩] 39) (sep (cel b5 [.int .i64 pk.id, .bool pk.more, .int .i64 pk.off, .int .i64 pk.ttl, .int .i64 pk.proto, .int .u8 pk.s0, .int .u8 pk.s1, .int .u8 pk.s2, .int .u8 pk.s3, .int .u8 pk.d0, .int .u8 pk.d1, .int .u8 pk.d2, .int .u8 pk.d3, .string pk.data] 39) (F)))))))))) (by show (sep (_) (sep (_) (sep (_) (sep (begs (l1 ++ (b, nb) :: l2)) (sep (_) (sep (_) (sep (_) (F)))))))) = _; rw [begs_app]; show (sep (_) (sep (_) (sep (_) (sep ((sep (begs l1) ((sep (begP (b, nb)) (begs l2))))) (sep (_) (sep (_) (sep (_) (F)))))))) = _; ac_rfl) ?_
  refine J_ex fun u => ?_
  refine J_eq (sep (cel nb [.int .i64 b.t, .slice u.1 (b.data).size u.2] 127) (sep (OwnB 5 u b.data) (sep (cel tp [.map (some r), .slice a.1 (keysOf (T.pass wt now).q).length a.2, .int .i64 m, .int .i64 wt, .int .i64 (T.pass wt now).now, .int .i64 (T.pass wt now).dr] 96) (sep (mapp r ksKy f) (sep (Own 122 10 (.slice a.1 (keysOf (T.pass wt now).q).length a.2) (keysOf (T.pass wt now).q).length (flatK (keysOf (T.pass wt now).q))) (sep (begs l1) (sep (begs l2) (sep (cel b10 [.int .u8 (kyOf pk).s0, .int .u8 (kyOf pk).s1, .int .u8 (kyOf pk).s2, .int .u8 (kyOf pk).s3, .int .u8 (kyOf pk).d0, .int .u8 (kyOf pk).d1, .int .u8 (kyOf pk).d2, .int .u8 (kyOf pk).d3, .int .i64 (kyOf pk).proto, .int .i64 (kyOf pk).id] 122) (sep (cel b6 [.int .i64 0, .bool false, .int .i64 0, .int .i64 0, .int .i64 0, .int .u8 0, .int .u8 0, .int .u8 0, .int .u8 0, .int .u8 0, .int .u8 0, .int .u8 0, .int .u8 0, .string ⟨#[]⟩] 39) (sep (cel b5 [.int .i64 pk.id, .bool pk.more, .int .i64 pk.off, .int .i64 pk.ttl, .int .i64 pk.proto, .int .u8 pk.s0, .int .u8 pk.s1, .int .u8 pk.s2, .int .u8 pk.s3, .int .u8 pk.d0, .int .u8 pk.d1, .int .u8 pk.d2, .int .u8 pk.d3, .string pk.data] 39) (F))))))))))) (sep_assoc _ _ _) ?_
  have hbm : b ∈ (T.pass wt now).q := by rw [← hx1]; exact List.mem_map.2 ⟨(b, nb), List.mem_append_right _ (List.mem_cons_self ..), rfl⟩
  have hbs := (hT1.bg b hbm).2
  have ht2 := hT1.dr
  have ht3 := hT1.n
  have hkl := keysOf_len (T.pass wt now).q
  have hpn : ptrOf (l1 ++ (b, nb) :: l2) (kyOf pk) = some (ad nb 0) := mid_ptr hbk hl1
  refine J_quiet Tryz.mixed (by kernel_rfl)<|qb rfl ?_
  first | refine qz rfl ?_ | refine qy rfl ?_
  refine ql rfl rfl<|qv (opv_loadS rfl) rfl<|qv (((opv_lookup (k := encKy (kyOf pk)) (f := f) rfl rfl (shKy _)).as (v' := .pointer (ptrOf (l1 ++ (b, nb) :: l2) (kyOf pk))) (hx2.ptr _)).as (v' := .pointer (some (ad nb 0))) (congrArg Value.pointer hpn)) rfl<|qa rfl<|qn<|kt<|js<|sa rfl ?_
  first | refine lv (opv_eql rfl rfl) rfl ?_ | refine lv (opv_eqlS rfl rfl) rfl ?_ | refine lv (opv_eqlNil rfl rfl) rfl ?_ | refine lv (opv_eqlB rfl rfl) rfl ?_
  refine nf rfl<|sk<|js<|js<|J_quiet Tryz.mixed (by kernel_rfl)<|qv (opv_loadS rfl) rfl<|qb rfl ?_
  first | refine qz rfl ?_ | refine qy rfl ?_
  refine ql rfl rfl ?_
  first | refine qv (opv_lenL rfl) rfl ?_ | refine qv (opv_lenS rfl) rfl ?_
  refine Q_call (sound_spec pk b.data.size (by omega) (by omega)) rfl rfl (fun _ _ => rfl) (fun _ _ => Ent.refl _) rfl<|qa rfl<|qn<|kt<|sa rfl<|lv ((opv_neq rfl rfl).bool_t hs) rfl<|nt rfl<|sa rfl<|ls rfl<|cy (drop_raw tp r (.int .i64 m) (.int .i64 wt) (.int .i64 (T.pass wt now).now) a.1 a.2 (keysOf (T.pass wt now).q) f (kyOf pk) (by omega) (T.pass wt now).dr (by omega)) rfl fun z=>nr<|lv (opv_build rfl) rfl<|ea rfl ?_
  refine lx rfl (opx_store rfl rfl rfl (by simp [Value.oneCell'])) fun _ _=>eb rfl<|nk<|jr<|kd ?_
  rw [← keysOf_wob]
  exact K_ret3c rfl rfl rfl rfl rfl () trivial rfl (Ent.trans (Ent.take (Q := (sep (cel tp [.map (some r), .slice z.1 (keysOf (wob (T.pass wt now).q (kyOf pk))).length z.2, .int .i64 m, .int .i64 wt, .int .i64 (T.pass wt now).now, .int .i64 ((T.pass wt now).dr + 1)] 96) (sep (mapp r ksKy (mdel f (encKy (kyOf pk)))) (sep (Own 122 10 (.slice z.1 (keysOf (wob (T.pass wt now).q (kyOf pk))).length z.2) (keysOf (wob (T.pass wt now).q (kyOf pk))).length (flatK (keysOf (wob (T.pass wt now).q (kyOf pk))))) (sep ((sep (begs l1) (begs l2))) (F))))))) (Ent.trans (Ent.of (by rw [← begs_app])) (TabP.fold (T := (⟨(wob (T.pass wt now).q (kyOf pk)), (T.pass wt now).now, (T.pass wt now).dr + 1⟩ : TS)) r z (l1 ++ l2) (mdel f (encKy (kyOf pk))) (by show (l1 ++ l2).map (·.1) = wob (T.pass wt now).q (kyOf pk); rw [← hx1]; unfold wob; rw [List.filter_map, ← mid_filt (n := nb) hbk hl1 hl2]; rfl) (by rw [← mid_filt (n := nb) hbk hl1 hl2]; exact hx2.del _))))
set_option maxHeartbeats 800000 in
theorem Put_more (tp : Nat) (m wt : Int) (T : TS) (now : Int) (pk : Pk) (h : timC T.now now = 0) (n : Nat) (hT : TOk n T) (hn : n ≤ 1000000) (hwt : 0 ≤ wt ∧ wt ≤ 1125899906842624) (hd : pk.data.size ≤ 140737488351232) (ho : pk.off ≠ 0) (b : Bg) (hf : bfind (T.pass wt now).q (kyOf pk) = some b) (hT1 : TOk n (T.pass wt now)) (hs : sndC pk b.data.size = 0) (hm : pk.more = true) : FSpec Tryz.prog 15 #[.pointer (some (ad tp 0)), .int .i64 now, .agg [.int .i64 pk.id, .bool pk.more, .int .i64 pk.off, .int .i64 pk.ttl, .int .i64 pk.proto, .int .u8 pk.s0, .int .u8 pk.s1, .int .u8 pk.s2, .int .u8 pk.s3, .int .u8 pk.d0, .int .u8 pk.d1, .int .u8 pk.d2, .int .u8 pk.d3, .string pk.data].toArray] (TabP tp m wt T) (fun _ : Unit => True) (fun _ => .tuple #[.agg [.int .i64 0, .bool false, .int .i64 0, .int .i64 0, .int .i64 0, .int .u8 0, .int .u8 0, .int .u8 0, .int .u8 0, .int .u8 0, .int .u8 0, .int .u8 0, .int .u8 0, .string ⟨#[]⟩].toArray, .bool false, .int .i64 0]) (fun _ => TabP tp m wt ⟨(upd (T.pass wt now).q (kyOf pk) pk.data), (T.pass wt now).now, (T.pass wt now).dr⟩) := by
  have hsz := snd_size hs
  refine en Tryz.func15 rfl fun σ F=>sr<|lx rfl (opx_box (l := [.int .i64 pk.id, .bool pk.more, .int .i64 pk.off, .int .i64 pk.ttl, .int .i64 pk.proto, .int .u8 pk.s0, .int .u8 pk.s1, .int .u8 pk.s2, .int .u8 pk.s3, .int .u8 pk.d0, .int .u8 pk.d1, .int .u8 pk.d2, .int .u8 pk.d3, .string pk.data]) rfl rfl) fun b5 _=>al rfl fun b6=>eb rfl<|nj<|sb rfl<|cy (Pass_ok tp m wt T now h n hT hn hwt) rfl fun _=>an rfl<|sa rfl<|lv ((opv_neq rfl rfl).bool_f (by decide)) rfl<|nf rfl<|sk<|js<|jb<|sr ?_
  first | refine fz rfl ?_ | refine fy rfl ?_
  refine ld rfl rfl<|lv ((opv_eql rfl rfl).bool_f ho) rfl<|ea rfl ?_
  refine L_gskip rfl rfl rfl ?_ (fun _ h => by cases h; rfl)
  refine L_gskip rfl rfl rfl ?_ (fun _ h => by cases h; rfl)
  refine L_gskip rfl rfl rfl ?_ (fun _ h => by cases h; rfl)
  first | refine ea rfl ?_ | refine lv (opv_pick rfl rfl rfl) rfl ?_
  refine an rfl<|cf rfl<|sr ?_
  first | refine fz rfl ?_ | refine fy rfl ?_
  refine ld rfl rfl<|lv ((opv_eql rfl rfl).bool_f ho) rfl<|an rfl<|cf rfl<|skb<|sr<|ls rfl<|cy (key_specV pk) rfl fun _=>L_emp<|al rfl fun b10=>?_
  refine lx rfl (opx_store rfl rfl rfl (by simp [Value.oneCell'])) fun _ _=>nj ?_
  refine J_eq (sep (TabP tp m wt (T.pass wt now)) (sep (cel b10 [.int .u8 (kyOf pk).s0, .int .u8 (kyOf pk).s1, .int .u8 (kyOf pk).s2, .int .u8 (kyOf pk).s3, .int .u8 (kyOf pk).d0, .int .u8 (kyOf pk).d1, .int .u8 (kyOf pk).d2, .int .u8 (kyOf pk).d3, .int .i64 (kyOf pk).proto, .int .i64 (kyOf pk).id] 122) (sep (cel b6 [.int .i64 0, .bool false, .int .i64 0, .int .i64 0, .int .i64 0, .int .u8 0, .int .u8 0, .int .u8 0, .int .u8 0, .int .u8 0, .int .u8 0, .int .u8 0, .int .u8 0, .string ⟨#[]⟩] 39) (sep (cel b5 [.int .i64 pk.id, .bool pk.more, .int .i64 pk.off, .int .i64 pk.ttl, .int .i64 pk.proto, .int .u8 pk.s0, .int .u8 pk.s1, .int .u8 pk.s2, .int .u8 pk.s3, .int .u8 pk.d0, .int .u8 pk.d1, .int .u8 pk.d2, .int .u8 pk.d3, .string pk.data] 39) (F))))) (by ac_rfl) ?_
  refine J_pre _ _ (fun w hs => TabP.sat hs) fun x hx => ?_
  obtain ⟨⟨hx1, hx2⟩, hx3⟩ := hx
  obtain ⟨r, a, es, f⟩ := x
  dsimp only at hx1 hx2 hx3
  obtain ⟨l1, nb, l2, hes, hbk, hl1⟩ := mid hx1 hf
  subst hes
  have hl2 := mid_rest hbk hx2.nd
  refine J_eq (sep (begP (b, nb)) (sep (cel tp [.map (some r), .slice a.1 (keysOf (T.pass wt now).q).length a.2, .int .i64 m, .int .i64 wt, .int .i64 (T.pass wt now).now, .int .i64 (T.pass wt now).dr] 96) (sep (mapp r ksKy f) (sep (Own 122 10 (.slice a.1 (keysOf (T.pass wt now).q).length a.2) (keysOf (T.pass wt now).q).length (flatK (keysOf (T.pass wt now).q))) (sep (begs l1) (sep (begs l2) (sep (cel b10 [.int .u8 (kyOf pk).s0, .int .u8 (kyOf pk).s1, .int .u8 (kyOf pk).s2, .int .u8 (kyOf pk).s3, .int .u8 (kyOf pk).d0, .int .u8 (kyOf pk).d1, .int .u8 (kyOf pk).d2, .int .u8 (kyOf pk).d3, .int .i64 (kyOf pk).proto, .int .i64 (kyOf pk).id] 122) (sep (cel b6 [.int .i64 0, .bool false, .int .i64 0, .int .i64 0, .int .i64 0, .int .u8 0, .int .u8 0, .int .u8 0, .int .u8 0, .int .u8 0, .int .u8 0, .int .u8 0, .int .u8 0, .string ⟨#[]⟩] 39) (sep (cel b5 [.int .i64 pk.id, .bool pk.more, .int .i64 pk.off, .int .i64 pk.ttl, .int .i64 pk.proto, .int .u8 pk.s0, .int .u8 pk.s1, .int .u8 pk.s2, .int .u8 pk.s3, .int .u8 pk.d0, .int .u8 pk.d1, .int .u8 pk.d2, .int .u8 pk.d3, .string pk.data] 39) (F)))))))))) (by show (sep (_) (sep (_) (sep (_) (sep (begs (l1 ++ (b, nb) :: l2)) (sep (_) (sep (_) (sep (_) (F)))))))) = _; rw [begs_app]; show (sep (_) (sep (_) (sep (_) (sep ((sep (begs l1) ((sep (begP (b, nb)) (begs l2))))) (sep (_) (sep (_) (sep (_) (F)))))))) = _; ac_rfl) ?_
  refine J_ex fun u => ?_
  refine J_eq (sep (cel nb [.int .i64 b.t, .slice u.1 (b.data).size u.2] 127) (sep (OwnB 5 u b.data) (sep (cel tp [.map (some r), .slice a.1 (keysOf (T.pass wt now).q).length a.2, .int .i64 m, .int .i64 wt, .int .i64 (T.pass wt now).now, .int .i64 (T.pass wt now).dr] 96) (sep (mapp r ksKy f) (sep (Own 122 10 (.slice a.1 (keysOf (T.pass wt now).q).length a.2) (keysOf (T.pass wt now).q).length (flatK (keysOf (T.pass wt now).q))) (sep (begs l1) (sep (begs l2) (sep (cel b10 [.int .u8 (kyOf pk).s0, .int .u8 (kyOf pk).s1, .int .u8 (kyOf pk).s2, .int .u8 (kyOf pk).s3, .int .u8 (kyOf pk).d0, .int .u8 (kyOf pk).d1, .int .u8 (kyOf pk).d2, .int .u8 (kyOf pk).d3, .int .i64 (kyOf pk).proto, .int .i64 (kyOf pk).id] 122) (sep (cel b6 [.int .i64 0, .bool false, .int .i64 0, .int .i64 0, .int .i64 0, .int .u8 0, .int .u8 0, .int .u8 0, .int .u8 0, .int .u8 0, .int .u8 0, .int .u8 0, .int .u8 0, .string ⟨#[]⟩] 39) (sep (cel b5 [.int .i64 pk.id, .bool pk.more, .int .i64 pk.off, .int .i64 pk.ttl, .int .i64 pk.proto, .int .u8 pk.s0, .int .u8 pk.s1, .int .u8 pk.s2, .int .u8 pk.s3, .int .u8 pk.d0, .int .u8 pk.d1, .int .u8 pk.d2, .int .u8 pk.d3, .string pk.data] 39) (F))))))))))) (sep_assoc _ _ _) ?_
  have hbm : b ∈ (T.pass wt now).q := by rw [← hx1]; exact List.mem_map.2 ⟨(b, nb), List.mem_append_right _ (List.mem_cons_self ..), rfl⟩
  have hbs := (hT1.bg b hbm).2
  have ht2 := hT1.dr
  have ht3 := hT1.n
  have hkl := keysOf_len (T.pass wt now).q
  have hpn : ptrOf (l1 ++ (b, nb) :: l2) (kyOf pk) = some (ad nb 0) := mid_ptr hbk hl1
  refine J_quiet Tryz.mixed (by kernel_rfl)<|qb rfl ?_
  first | refine qz rfl ?_ | refine qy rfl ?_
  refine ql rfl rfl<|qv (opv_loadS rfl) rfl<|qv (((opv_lookup (k := encKy (kyOf pk)) (f := f) rfl rfl (shKy _)).as (v' := .pointer (ptrOf (l1 ++ (b, nb) :: l2) (kyOf pk))) (hx2.ptr _)).as (v' := .pointer (some (ad nb 0))) (congrArg Value.pointer hpn)) rfl<|qa rfl<|qn<|kt<|js<|sa rfl ?_
  first | refine lv (opv_eql rfl rfl) rfl ?_ | refine lv (opv_eqlS rfl rfl) rfl ?_ | refine lv (opv_eqlNil rfl rfl) rfl ?_ | refine lv (opv_eqlB rfl rfl) rfl ?_
  refine nf rfl<|sk<|js<|js<|J_quiet Tryz.mixed (by kernel_rfl)<|qv (opv_loadS rfl) rfl<|qb rfl ?_
  first | refine qz rfl ?_ | refine qy rfl ?_
  refine ql rfl rfl ?_
  first | refine qv (opv_lenL rfl) rfl ?_ | refine qv (opv_lenS rfl) rfl ?_
  refine Q_call (sound_spec pk b.data.size (by omega) (by omega)) rfl rfl (fun _ _ => rfl) (fun _ _ => Ent.refl _) rfl<|qa rfl<|qn<|kt<|sa rfl<|lv ((opv_neq rfl rfl).bool_f (fun n => n hs)) rfl<|nf rfl<|sk<|js<|J_steps (cel b5 [.int .i64 pk.id, .bool pk.more, .int .i64 pk.off, .int .i64 pk.ttl, .int .i64 pk.proto, .int .u8 pk.s0, .int .u8 pk.s1, .int .u8 pk.s2, .int .u8 pk.s3, .int .u8 pk.d0, .int .u8 pk.d1, .int .u8 pk.d2, .int .u8 pk.d3, .string pk.data] 39) ((sep (cel b5 [.int .i64 pk.id, .bool pk.more, .int .i64 pk.off, .int .i64 pk.ttl, .int .i64 pk.proto, .int .u8 pk.s0, .int .u8 pk.s1, .int .u8 pk.s2, .int .u8 pk.s3, .int .u8 pk.d0, .int .u8 pk.d1, .int .u8 pk.d2, .int .u8 pk.d3, .string pk.data] 39) (cel nb [.int .i64 b.t, .slice u.1 (b.data).size u.2] 127))) [10] Tryz.mixed<|pe 0 rfl rfl<|pe 1 rfl rfl<|pe 2 rfl rfl ?_
  first | refine ps 3 rfl (opv_fieldAddr0 rfl) ?_ | refine ps 3 rfl (opv_fieldAddr rfl) ?_
  refine R_ts 4 rfl (by kernel_rfl) (opv_load rfl (Rd.look rfl)) rfl ?_
  first | refine ps 5 rfl (opv_fieldAddr0 rfl) ?_ | refine ps 5 rfl (opv_fieldAddr rfl) ?_
  refine R_ts 6 rfl (by kernel_rfl) (opv_load rfl (Rd.look rfl)) rfl<|pn 7 rfl (opx_appendB rfl rfl rfl rfl (by unfold maxLen; omega) (by omega) rfl) fun y70 _=>pe 8 rfl rfl ?_
  first | refine ps 9 rfl (opv_fieldAddr0 rfl) ?_ | refine ps 9 rfl (opv_fieldAddr rfl) ?_
  refine R_o 10 rfl rfl (by kernel_rfl) (opx_store rfl rfl rfl (by simp [Value.oneCell'])) fun _ _=>dn<|kt<|js<|sr ?_
  first | refine fz rfl ?_ | refine fy rfl ?_
  refine lv ((opv_load rfl (Rd.look rfl)).as (v' := .bool true) (by rw [hm])) rfl<|nt rfl<|sr<|lv (opv_build rfl) rfl ?_
  refine lx rfl (opx_store rfl rfl rfl (by simp [Value.oneCell'])) fun _ _=>eb rfl<|nk<|jr<|kd ?_
  have e1 : upd (T.pass wt now).q (kyOf pk) pk.data = (l1 ++ ((⟨b.k, b.t, b.data ++ pk.data⟩ : Bg), nb) :: l2).map (·.1) := by rw [← hx1]; exact mid_upd hbk hl1 hl2
  have e2 := keysOf_upd (T.pass wt now).q (kyOf pk) pk.data
  exact K_ret3c rfl rfl rfl rfl rfl () trivial rfl (Ent.trans (Ent.take (Q := (sep (cel nb [.int .i64 b.t, .slice y70.1 ((b.data ++ pk.data)).size y70.2] 127) (sep (OwnB 5 y70 (b.data ++ pk.data)) (sep (cel tp [.map (some r), .slice a.1 (keysOf (T.pass wt now).q).length a.2, .int .i64 m, .int .i64 wt, .int .i64 (T.pass wt now).now, .int .i64 (T.pass wt now).dr] 96) (sep (mapp r ksKy f) (sep (Own 122 10 (.slice a.1 (keysOf (T.pass wt now).q).length a.2) (keysOf (T.pass wt now).q).length (flatK (keysOf (T.pass wt now).q))) (sep (begs l1) (sep (begs l2) (F)))))))))) (Ent.trans (begP.fold (e := ((⟨b.k, b.t, b.data ++ pk.data⟩ : Bg), nb)) y70) (Ent.trans (Ent.of (Q := (sep (cel tp [.map (some r), .slice a.1 (keysOf (upd (T.pass wt now).q (kyOf pk) pk.data)).length a.2, .int .i64 m, .int .i64 wt, .int .i64 (T.pass wt now).now, .int .i64 (T.pass wt now).dr] 96) (sep (mapp r ksKy f) (sep (Own 122 10 (.slice a.1 (keysOf (upd (T.pass wt now).q (kyOf pk) pk.data)).length a.2) (keysOf (upd (T.pass wt now).q (kyOf pk) pk.data)).length (flatK (keysOf (upd (T.pass wt now).q (kyOf pk) pk.data)))) (sep (begs (l1 ++ ((⟨b.k, b.t, b.data ++ pk.data⟩ : Bg), nb) :: l2)) (F)))))) (by rw [begs_app, e2]; show _ = (sep (_) (sep (_) (sep (_) (sep ((sep (begs l1) ((sep (begP ((⟨b.k, b.t, b.data ++ pk.data⟩ : Bg), nb)) (begs l2))))) (F))))); ac_rfl)) (TabP.fold (T := ⟨(upd (T.pass wt now).q (kyOf pk) pk.data), (T.pass wt now).now, (T.pass wt now).dr⟩) r a (l1 ++ ((⟨b.k, b.t, b.data ++ pk.data⟩ : Bg), nb) :: l2) f e1.symm (hx2.upd rfl)))))
set_option maxHeartbeats 800000 in
theorem Put_last (tp : Nat) (m wt : Int) (T : TS) (now : Int) (pk : Pk) (h : timC T.now now = 0) (n : Nat) (hT : TOk n T) (hn : n ≤ 1000000) (hwt : 0 ≤ wt ∧ wt ≤ 1125899906842624) (hd : pk.data.size ≤ 140737488351232) (ho : pk.off ≠ 0) (b : Bg) (hf : bfind (T.pass wt now).q (kyOf pk) = some b) (hT1 : TOk n (T.pass wt now)) (hs : sndC pk b.data.size = 0) (hm : pk.more = false) : FSpec Tryz.prog 15 #[.pointer (some (ad tp 0)), .int .i64 now, .agg [.int .i64 pk.id, .bool pk.more, .int .i64 pk.off, .int .i64 pk.ttl, .int .i64 pk.proto, .int .u8 pk.s0, .int .u8 pk.s1, .int .u8 pk.s2, .int .u8 pk.s3, .int .u8 pk.d0, .int .u8 pk.d1, .int .u8 pk.d2, .int .u8 pk.d3, .string pk.data].toArray] (TabP tp m wt T) (fun _ : Unit => True) (fun _ => .tuple #[.agg [.int .i64 pk.id, .bool pk.more, .int .i64 0, .int .i64 pk.ttl, .int .i64 pk.proto, .int .u8 pk.s0, .int .u8 pk.s1, .int .u8 pk.s2, .int .u8 pk.s3, .int .u8 pk.d0, .int .u8 pk.d1, .int .u8 pk.d2, .int .u8 pk.d3, .string (b.data ++ pk.data)].toArray, .bool true, .int .i64 0]) (fun _ => TabP tp m wt (⟨(wob (T.pass wt now).q (kyOf pk)), (T.pass wt now).now, (T.pass wt now).dr⟩ : TS)) := by
  have hsz := snd_size hs
  refine en Tryz.func15 rfl fun σ F=>sr<|lx rfl (opx_box (l := [.int .i64 pk.id, .bool pk.more, .int .i64 pk.off, .int .i64 pk.ttl, .int .i64 pk.proto, .int .u8 pk.s0, .int .u8 pk.s1, .int .u8 pk.s2, .int .u8 pk.s3, .int .u8 pk.d0, .int .u8 pk.d1, .int .u8 pk.d2, .int .u8 pk.d3, .string pk.data]) rfl rfl) fun b5 _=>al rfl fun b6=>eb rfl<|nj<|sb rfl<|cy (Pass_ok tp m wt T now h n hT hn hwt) rfl fun _=>an rfl<|sa rfl<|lv ((opv_neq rfl rfl).bool_f (by decide)) rfl<|nf rfl<|sk<|js<|jb<|sr ?_
  first | refine fz rfl ?_ | refine fy rfl ?_
  refine ld rfl rfl<|lv ((opv_eql rfl rfl).bool_f ho) rfl<|ea rfl ?_
  refine L_gskip rfl rfl rfl ?_ (fun _ h => by cases h; rfl)
  refine L_gskip rfl rfl rfl ?_ (fun _ h => by cases h; rfl)
  refine L_gskip rfl rfl rfl ?_ (fun _ h => by cases h; rfl)
  first | refine ea rfl ?_ | refine lv (opv_pick rfl rfl rfl) rfl ?_
  refine an rfl<|cf rfl<|sr ?_
  first | refine fz rfl ?_ | refine fy rfl ?_
  refine ld rfl rfl<|lv ((opv_eql rfl rfl).bool_f ho) rfl<|an rfl<|cf rfl<|skb<|sr<|ls rfl<|cy (key_specV pk) rfl fun _=>L_emp<|al rfl fun b10=>?_
  refine lx rfl (opx_store rfl rfl rfl (by simp [Value.oneCell'])) fun _ _=>nj ?_
  refine J_eq (sep (TabP tp m wt (T.pass wt now)) (sep (cel b10 [.int .u8 (kyOf pk).s0, .int .u8 (kyOf pk).s1, .int .u8 (kyOf pk).s2, .int .u8 (kyOf pk).s3, .int .u8 (kyOf pk).d0, .int .u8 (kyOf pk).d1, .int .u8 (kyOf pk).d2, .int .u8 (kyOf pk).d3, .int .i64 (kyOf pk).proto, .int .i64 (kyOf pk).id] 122) (sep (cel b6 [.int .i64 0, .bool false, .int .i64 0, .int .i64 0, .int .i64 0, .int .u8 0, .int .u8 0, .int .u8 0, .int .u8 0, .int .u8 0, .int .u8 0, .int .u8 0, .int .u8 0, .string ⟨#[]⟩] 39) (sep (cel b5 [.int .i64 pk.id, .bool pk.more, .int .i64 pk.off, .int .i64 pk.ttl, .int .i64 pk.proto, .int .u8 pk.s0, .int .u8 pk.s1, .int .u8 pk.s2, .int .u8 pk.s3, .int .u8 pk.d0, .int .u8 pk.d1, .int .u8 pk.d2, .int .u8 pk.d3, .string pk.data] 39) (F))))) (by ac_rfl) ?_
  refine J_pre _ _ (fun w hs => TabP.sat hs) fun x hx => ?_
  obtain ⟨⟨hx1, hx2⟩, hx3⟩ := hx
  obtain ⟨r, a, es, f⟩ := x
  dsimp only at hx1 hx2 hx3
  obtain ⟨l1, nb, l2, hes, hbk, hl1⟩ := mid hx1 hf
  subst hes
  have hl2 := mid_rest hbk hx2.nd
  refine J_eq (sep (begP (b, nb)) (sep (cel tp [.map (some r), .slice a.1 (keysOf (T.pass wt now).q).length a.2, .int .i64 m, .int .i64 wt, .int .i64 (T.pass wt now).now, .int .i64 (T.pass wt now).dr] 96) (sep (mapp r ksKy f) (sep (Own 122 10 (.slice a.1 (keysOf (T.pass wt now).q).length a.2) (keysOf (T.pass wt now).q).length (flatK (keysOf (T.pass wt now).q))) (sep (begs l1) (sep (begs l2) (sep (cel b10 [.int .u8 (kyOf pk).s0, .int .u8 (kyOf pk).s1, .int .u8 (kyOf pk).s2, .int .u8 (kyOf pk).s3, .int .u8 (kyOf pk).d0, .int .u8 (kyOf pk).d1, .int .u8 (kyOf pk).d2, .int .u8 (kyOf pk).d3, .int .i64 (kyOf pk).proto, .int .i64 (kyOf pk).id] 122) (sep (cel b6 [.int .i64 0, .bool false, .int .i64 0, .int .i64 0, .int .i64 0, .int .u8 0, .int .u8 0, .int .u8 0, .int .u8 0, .int .u8 0, .int .u8 0, .int .u8 0, .int .u8 0, .string ⟨#[]⟩] 39) (sep (cel b5 [.int .i64 pk.id, .bool pk.more, .int .i64 pk.off, .int .i64 pk.ttl, .int .i64 pk.proto, .int .u8 pk.s0, .int .u8 pk.s1, .int .u8 pk.s2, .int .u8 pk.s3, .int .u8 pk.d0, .int .u8 pk.d1, .int .u8 pk.d2, .int .u8 pk.d3, .string pk.data] 39) (F)))))))))) (by show (sep (_) (sep (_) (sep (_) (sep (begs (l1 ++ (b, nb) :: l2)) (sep (_) (sep (_) (sep (_) (F)))))))) = _; rw [begs_app]; show (sep (_) (sep (_) (sep (_) (sep ((sep (begs l1) ((sep (begP (b, nb)) (begs l2))))) (sep (_) (sep (_) (sep (_) (F)))))))) = _; ac_rfl) ?_
  refine J_ex fun u => ?_
  refine J_eq (sep (cel nb [.int .i64 b.t, .slice u.1 (b.data).size u.2] 127) (sep (OwnB 5 u b.data) (sep (cel tp [.map (some r), .slice a.1 (keysOf (T.pass wt now).q).length a.2, .int .i64 m, .int .i64 wt, .int .i64 (T.pass wt now).now, .int .i64 (T.pass wt now).dr] 96) (sep (mapp r ksKy f) (sep (Own 122 10 (.slice a.1 (keysOf (T.pass wt now).q).length a.2) (keysOf (T.pass wt now).q).length (flatK (keysOf (T.pass wt now).q))) (sep (begs l1) (sep (begs l2) (sep (cel b10 [.int .u8 (kyOf pk).s0, .int .u8 (kyOf pk).s1, .int .u8 (kyOf pk).s2, .int .u8 (kyOf pk).s3, .int .u8 (kyOf pk).d0, .int .u8 (kyOf pk).d1, .int .u8 (kyOf pk).d2, .int .u8 (kyOf pk).d3, .int .i64 (kyOf pk).proto, .int .i64 (kyOf pk).id] 122) (sep (cel b6 [.int .i64 0, .bool false, .int .i64 0, .int .i64 0, .int .i64 0, .int .u8 0, .int .u8 0, .int .u8 0, .int .u8 0, .int .u8 0, .int .u8 0, .int .u8 0, .int .u8 0, .string ⟨#[]⟩] 39) (sep (cel b5 [.int .i64 pk.id, .bool pk.more, .int .i64 pk.off, .int .i64 pk.ttl, .int .i64 pk.proto, .int .u8 pk.s0, .int .u8 pk.s1, .int .u8 pk.s2, .int .u8 pk.s3, .int .u8 pk.d0, .int .u8 pk.d1, .int .u8 pk.d2, .int .u8 pk.d3, .string pk.data] 39) (F))))))))))) (sep_assoc _ _ _) ?_
  have hbm : b ∈ (T.pass wt now).q := by rw [← hx1]; exact List.mem_map.2 ⟨(b, nb), List.mem_append_right _ (List.mem_cons_self ..), rfl⟩
  have hbs := (hT1.bg b hbm).2
  have ht2 := hT1.dr
  have ht3 := hT1.n
  have hkl := keysOf_len (T.pass wt now).q
  have hpn : ptrOf (l1 ++ (b, nb) :: l2) (kyOf pk) = some (ad nb 0) := mid_ptr hbk hl1
  refine J_quiet Tryz.mixed (by kernel_rfl)<|qb rfl ?_
  first | refine qz rfl ?_ | refine qy rfl ?_
  refine ql rfl rfl<|qv (opv_loadS rfl) rfl<|qv (((opv_lookup (k := encKy (kyOf pk)) (f := f) rfl rfl (shKy _)).as (v' := .pointer (ptrOf (l1 ++ (b, nb) :: l2) (kyOf pk))) (hx2.ptr _)).as (v' := .pointer (some (ad nb 0))) (congrArg Value.pointer hpn)) rfl<|qa rfl<|qn<|kt<|js<|sa rfl ?_
  first | refine lv (opv_eql rfl rfl) rfl ?_ | refine lv (opv_eqlS rfl rfl) rfl ?_ | refine lv (opv_eqlNil rfl rfl) rfl ?_ | refine lv (opv_eqlB rfl rfl) rfl ?_
  refine nf rfl<|sk<|js<|js<|J_quiet Tryz.mixed (by kernel_rfl)<|qv (opv_loadS rfl) rfl<|qb rfl ?_
  first | refine qz rfl ?_ | refine qy rfl ?_
  refine ql rfl rfl ?_
  first | refine qv (opv_lenL rfl) rfl ?_ | refine qv (opv_lenS rfl) rfl ?_
  refine Q_call (sound_spec pk b.data.size (by omega) (by omega)) rfl rfl (fun _ _ => rfl) (fun _ _ => Ent.refl _) rfl<|qa rfl<|qn<|kt<|sa rfl<|lv ((opv_neq rfl rfl).bool_f (fun n => n hs)) rfl<|nf rfl<|sk<|js<|J_steps (cel b5 [.int .i64 pk.id, .bool pk.more, .int .i64 pk.off, .int .i64 pk.ttl, .int .i64 pk.proto, .int .u8 pk.s0, .int .u8 pk.s1, .int .u8 pk.s2, .int .u8 pk.s3, .int .u8 pk.d0, .int .u8 pk.d1, .int .u8 pk.d2, .int .u8 pk.d3, .string pk.data] 39) ((sep (cel b5 [.int .i64 pk.id, .bool pk.more, .int .i64 pk.off, .int .i64 pk.ttl, .int .i64 pk.proto, .int .u8 pk.s0, .int .u8 pk.s1, .int .u8 pk.s2, .int .u8 pk.s3, .int .u8 pk.d0, .int .u8 pk.d1, .int .u8 pk.d2, .int .u8 pk.d3, .string pk.data] 39) (cel nb [.int .i64 b.t, .slice u.1 (b.data).size u.2] 127))) [10] Tryz.mixed<|pe 0 rfl rfl<|pe 1 rfl rfl<|pe 2 rfl rfl ?_
  first | refine ps 3 rfl (opv_fieldAddr0 rfl) ?_ | refine ps 3 rfl (opv_fieldAddr rfl) ?_
  refine R_ts 4 rfl (by kernel_rfl) (opv_load rfl (Rd.look rfl)) rfl ?_
  first | refine ps 5 rfl (opv_fieldAddr0 rfl) ?_ | refine ps 5 rfl (opv_fieldAddr rfl) ?_
  refine R_ts 6 rfl (by kernel_rfl) (opv_load rfl (Rd.look rfl)) rfl<|pn 7 rfl (opx_appendB rfl rfl rfl rfl (by unfold maxLen; omega) (by omega) rfl) fun y70 _=>pe 8 rfl rfl ?_
  first | refine ps 9 rfl (opv_fieldAddr0 rfl) ?_ | refine ps 9 rfl (opv_fieldAddr rfl) ?_
  refine R_o 10 rfl rfl (by kernel_rfl) (opx_store rfl rfl rfl (by simp [Value.oneCell'])) fun _ _=>dn<|kt<|js<|sr ?_
  first | refine fz rfl ?_ | refine fy rfl ?_
  refine lv ((opv_load rfl (Rd.look rfl)).as (v' := .bool false) (by rw [hm])) rfl<|nf rfl<|sk<|sa rfl<|ls rfl<|cy (forget_raw tp r (.int .i64 m) (.int .i64 wt) (.int .i64 (T.pass wt now).now) (.int .i64 (T.pass wt now).dr) a.1 a.2 (keysOf (T.pass wt now).q) f (kyOf pk) (by omega)) rfl fun z=>nj<|J_steps ((sep (cel nb [.int .i64 b.t, .slice y70.1 ((b.data ++ pk.data)).size y70.2] 127) (OwnB 5 y70 (b.data ++ pk.data)))) ((sep (cel nb [.int .i64 b.t, .slice y70.1 ((b.data ++ pk.data)).size y70.2] 127) (sep (OwnB 5 y70 (b.data ++ pk.data)) (cel b5 [.int .i64 pk.id, .bool pk.more, .int .i64 pk.off, .int .i64 pk.ttl, .int .i64 pk.proto, .int .u8 pk.s0, .int .u8 pk.s1, .int .u8 pk.s2, .int .u8 pk.s3, .int .u8 pk.d0, .int .u8 pk.d1, .int .u8 pk.d2, .int .u8 pk.d3, .string pk.data] 39)))) [6, 8] Tryz.mixed<|pe 0 rfl rfl<|pe 1 rfl rfl ?_
  first | refine ps 2 rfl (opv_fieldAddr0 rfl) ?_ | refine ps 2 rfl (opv_fieldAddr rfl) ?_
  refine pl 3 rfl rfl rfl<|ps 4 rfl (opv_b2sB rfl rfl) ?_
  first | refine ps 5 rfl (opv_fieldAddr0 rfl) ?_ | refine ps 5 rfl (opv_fieldAddr rfl) ?_
  refine R_o 6 rfl rfl (by kernel_rfl) (opx_store rfl rfl rfl (by simp [Value.oneCell'])) fun _ _=>?_
  first | refine R_q 7 rfl (by kernel_rfl) (opv_fieldAddr0 rfl) rfl ?_ | refine R_q 7 rfl (by kernel_rfl) (opv_fieldAddr rfl) rfl ?_
  refine R_o 8 rfl rfl (by kernel_rfl) (opx_store rfl rfl rfl (by simp [Value.oneCell'])) fun _ _=>dn<|kt<|sr<|ls rfl ?_
  refine lx rfl (opx_store rfl rfl rfl (by simp [Value.oneCell'])) fun _ _=>eb rfl<|nk<|jr ?_
  rw [← keysOf_wob]
  exact K_ret3c rfl rfl rfl rfl rfl () trivial rfl (Ent.trans (Ent.take (Q := (sep (cel tp [.map (some r), .slice z.1 (keysOf (wob (T.pass wt now).q (kyOf pk))).length z.2, .int .i64 m, .int .i64 wt, .int .i64 (T.pass wt now).now, .int .i64 (T.pass wt now).dr] 96) (sep (mapp r ksKy (mdel f (encKy (kyOf pk)))) (sep (Own 122 10 (.slice z.1 (keysOf (wob (T.pass wt now).q (kyOf pk))).length z.2) (keysOf (wob (T.pass wt now).q (kyOf pk))).length (flatK (keysOf (wob (T.pass wt now).q (kyOf pk))))) (sep ((sep (begs l1) (begs l2))) (F))))))) (Ent.trans (Ent.of (by rw [← begs_app])) (TabP.fold (T := (⟨(wob (T.pass wt now).q (kyOf pk)), (T.pass wt now).now, (T.pass wt now).dr⟩ : TS)) r z (l1 ++ l2) (mdel f (encKy (kyOf pk))) (by show (l1 ++ l2).map (·.1) = wob (T.pass wt now).q (kyOf pk); rw [← hx1]; unfold wob; rw [List.filter_map, ← mid_filt (n := nb) hbk hl1 hl2]; rfl) (by rw [← mid_filt (n := nb) hbk hl1 hl2]; exact hx2.del _))))
end Go.Proofs.YtpkcniedaabpoaaGreat
namespace Go.Proofs.YtpkcniedaabpoaaGreat
open Go.SLA
set_option maxRecDepth 100000
attribute [local irreducible] J L K QL Rg FSpec OpV OpX Rd Back
theorem timC_ok {a b : Int} (h : timC a b = 0) : a ≤ b ∧ b ≤ 1125899906842624 := by
  unfold timC at h
  split at h
  · cases h
  · split at h
    · cases h
    · omega
theorem TOk.pass {n : Nat} {T : TS} (h : TOk n T) {wt now : Int} (ht : timC T.now now = 0) : TOk n (T.pass wt now) := by
  have h1 := timC_ok ht
  have h2 := h.now
  have hs := List.dropWhile_sublist (late wt now) (l := T.q)
  have hl := congrArg List.length (List.takeWhile_append_dropWhile (p := late wt now) (l := T.q))
  rw [List.length_append] at hl
  have hd := h.dr
  have hn := h.n
  refine ⟨?_, fun b hb => h.bg b (hs.subset hb), h.nd.sublist (hs.map _), ?_, ?_⟩
  · show 0 ≤ now ∧ now ≤ _; omega
  · show 0 ≤ T.dr + ((T.q.takeWhile (late wt now)).length : Int); omega
  · show T.dr + ((T.q.takeWhile (late wt now)).length : Int) + ((T.q.dropWhile (late wt now)).length : Int) ≤ _; omega
theorem TOk.more {n : Nat} {T : TS} (h : TOk n T) : TOk (n + 1) T := ⟨h.now, h.bg, h.nd, h.dr, by have := h.n; omega⟩
theorem TOk.begn {n : Nat} {T : TS} (h : TOk n T) (m : Int) (pk : Pk) : TOk (n + 1) (T.begn m pk).2 := by
  have hf := h.free (kyOf pk)
  by_cases h1 : sndC pk 0 = 0
  · by_cases h2 : m ≤ ((T.free (kyOf pk)).q.length : Int)
    · rw [begn_full h1 h2]; exact hf.more
    · rw [begn_ok h1 h2]
      have hz := snd_size h1
      have hno := free_not (T := T) (k := kyOf pk)
      refine ⟨hf.now, fun b hb => ?_, ?_, hf.dr, ?_⟩
      · rcases List.mem_append.1 hb with hb | hb
        · exact hf.bg b hb
        · rw [List.mem_singleton.1 hb]
          have := hf.now
          exact ⟨by dsimp only; omega, by dsimp only; omega⟩
      · unfold keysOf
        rw [List.map_append, List.nodup_append]
        refine ⟨hf.nd, by simp, fun a ha c hc => ?_⟩
        simp only [List.map_cons, List.map_nil, List.mem_singleton] at hc
        rintro rfl
        exact hno (hc ▸ ha)
      · have := hf.n
        show (T.free (kyOf pk)).dr + (((T.free (kyOf pk)).q ++ [_]).length : Int) ≤ _
        rw [List.length_append, List.length_singleton]
        omega
  · rw [begn_bad h1]; exact hf.more
theorem TOk.wob {n : Nat} {T : TS} (h : TOk n T) {b : Bg} {k : Ky} (hf : bfind T.q k = some b) (d : Int) (hd : d = T.dr ∨ d = T.dr + 1) : TOk n ⟨wob T.q k, T.now, d⟩ := by
  have hb : b.k = k ∧ b ∈ T.q := ⟨by have := List.find?_some hf; simpa using this, List.mem_of_find?_eq_some hf⟩
  have hl := wob_lt (q := T.q) (k := k) (List.mem_map.2 ⟨b, hb.2, hb.1⟩)
  have hs := wob_sub T.q k
  have h1 := h.dr
  have h2 := h.n
  exact ⟨h.now, fun b hb => h.bg b (hs.subset hb), h.nd.sublist (hs.map _), by dsimp only; omega, by dsimp only; omega⟩
theorem TOk.upd {n : Nat} {T : TS} (h : TOk n T) {b : Bg} {k : Ky} {d : ByteArray} (hf : bfind T.q k = some b) (hs : b.data.size + d.size ≤ 8200) : TOk n ⟨upd T.q k d, T.now, T.dr⟩ := by
  refine ⟨h.now, fun c hc => ?_, by dsimp only; rw [keysOf_upd]; exact h.nd, h.dr, by have := h.n; unfold _root_.Go.Proofs.YtpkcniedaabpoaaGreat.upd; dsimp only; rw [List.length_map]; exact this⟩
  obtain ⟨e, he, rfl⟩ := List.mem_map.1 hc
  have hb : b.k = k ∧ b ∈ T.q := ⟨by have := List.find?_some hf; simpa using this, List.mem_of_find?_eq_some hf⟩
  by_cases hk : e.k = k
  · rw [if_pos hk]
    have heb : e = b := by
      obtain ⟨i, hi⟩ := List.getElem?_of_mem he
      obtain ⟨j, hj⟩ := List.getElem?_of_mem hb.2
      have hp := List.pairwise_iff_getElem.1 h.nd
      have hi' := klt hi
      have hj' := klt hj
      rw [List.getElem?_eq_getElem hi'] at hi
      rw [List.getElem?_eq_getElem hj'] at hj
      simp only [Option.some.injEq] at hi hj
      have hik : i < (keysOf T.q).length := by rw [keysOf_len]; exact hi'
      have hjk : j < (keysOf T.q).length := by rw [keysOf_len]; exact hj'
      have e1 : (keysOf T.q)[i] = (keysOf T.q)[j] := by
        show (T.q.map (·.k))[i]'(by simpa [keysOf] using hik) = (T.q.map (·.k))[j]'(by simpa [keysOf] using hjk)
        rw [List.getElem_map, List.getElem_map, hi, hj, hk, hb.1]
      rcases Nat.lt_trichotomy i j with hl | rfl | hl
      · exact absurd e1 (hp i j hik hjk hl)
      · rw [← hi, ← hj]
      · exact absurd e1.symm (hp j i hjk hik hl)
    have := h.bg e he
    rw [heb] at this ⊢
    exact ⟨this.1, by dsimp only; rw [ByteArray.size_append]; exact hs⟩
  · rw [if_neg hk]; exact h.bg e he
/-- A part comes: what that answers, and what is then. -/
def TS.put (T : TS) (m wt now : Int) (p : Pk) : (Pk × Bool × Int) × TS :=
  if timC T.now now ≠ 0 then ((pkz, false, timC T.now now), T)
  else if p.off = 0 then
    if p.more = false then ((p, true, 0), T.pass wt now) else ((pkz, false, ((T.pass wt now).begn m p).1), ((T.pass wt now).begn m p).2)
  else match bfind (T.pass wt now).q (kyOf p) with
    | none => ((pkz, false, 25), T.pass wt now)
    | some b => if sndC p b.data.size ≠ 0 then ((pkz, false, sndC p b.data.size), ⟨wob (T.pass wt now).q (kyOf p), (T.pass wt now).now, (T.pass wt now).dr + 1⟩)
      else if p.more = true then ((pkz, false, 0), ⟨upd (T.pass wt now).q (kyOf p) p.data, (T.pass wt now).now, (T.pass wt now).dr⟩)
      else (({ p with off := 0, data := b.data ++ p.data }, true, 0), ⟨wob (T.pass wt now).q (kyOf p), (T.pass wt now).now, (T.pass wt now).dr⟩)
section
variable {T : TS} {m wt now : Int} {p : Pk}
theorem putT_bad (h : timC T.now now ≠ 0) : T.put m wt now p = ((pkz, false, timC T.now now), T) := if_pos h
theorem put_whole (h : timC T.now now = 0) (ho : p.off = 0) (hm : p.more = false) : T.put m wt now p = ((p, true, 0), T.pass wt now) := by unfold TS.put; rw [if_neg (fun n => n h), if_pos ho, if_pos hm]
theorem put_begin (h : timC T.now now = 0) (ho : p.off = 0) (hm : p.more = true) : T.put m wt now p = ((pkz, false, ((T.pass wt now).begn m p).1), ((T.pass wt now).begn m p).2) := by unfold TS.put; rw [if_neg (fun n => n h), if_pos ho, if_neg (by rw [hm]; decide)]
theorem put_none (h : timC T.now now = 0) (ho : p.off ≠ 0) (hf : bfind (T.pass wt now).q (kyOf p) = none) : T.put m wt now p = ((pkz, false, 25), T.pass wt now) := by unfold TS.put; rw [if_neg (fun n => n h), if_neg ho, hf]
theorem put_some {b : Bg} (h : timC T.now now = 0) (ho : p.off ≠ 0) (hf : bfind (T.pass wt now).q (kyOf p) = some b) : T.put m wt now p = if sndC p b.data.size ≠ 0 then ((pkz, false, sndC p b.data.size), ⟨wob (T.pass wt now).q (kyOf p), (T.pass wt now).now, (T.pass wt now).dr + 1⟩)
      else if p.more = true then ((pkz, false, 0), ⟨upd (T.pass wt now).q (kyOf p) p.data, (T.pass wt now).now, (T.pass wt now).dr⟩)
      else (({ p with off := 0, data := b.data ++ p.data }, true, 0), ⟨wob (T.pass wt now).q (kyOf p), (T.pass wt now).now, (T.pass wt now).dr⟩) := by unfold TS.put; rw [if_neg (fun n => n h), if_neg ho, hf]
theorem TOk.put {n : Nat} (h : TOk n T) (m wt now : Int) (p : Pk) : TOk (n + 1) (T.put m wt now p).2 := by
  by_cases ht : timC T.now now = 0
  · have hp := h.pass (wt := wt) ht
    by_cases ho : p.off = 0
    · cases hm : p.more with
      | false => rw [put_whole ht ho hm]; exact hp.more
      | true => rw [put_begin ht ho hm]; exact hp.begn m p
    · cases hf : bfind (T.pass wt now).q (kyOf p) with
      | none => rw [put_none ht ho hf]; exact hp.more
      | some b =>
        rw [put_some ht ho hf]
        by_cases hs : sndC p b.data.size = 0
        · rw [if_neg (fun n => n hs)]
          have hz := snd_size hs
          split
          · exact (hp.upd hf hz).more
          · exact (hp.wob hf _ (.inl rfl)).more
        · rw [if_pos hs]
          exact (hp.wob hf _ (.inr rfl)).more
  · rw [putT_bad ht]; exact h.more
theorem Put_any (tp : Nat) (m wt : Int) (T : TS) (now : Int) (pk : Pk) (n : Nat) (hT : TOk n T) (hn : n ≤ 1000000) (hwt : 0 ≤ wt ∧ wt ≤ 1125899906842624) (hd : pk.data.size ≤ 140737488351232) : FSpec Tryz.prog 15 #[.pointer (some (ad tp 0)), .int .i64 now, .agg [.int .i64 pk.id, .bool pk.more, .int .i64 pk.off, .int .i64 pk.ttl, .int .i64 pk.proto, .int .u8 pk.s0, .int .u8 pk.s1, .int .u8 pk.s2, .int .u8 pk.s3, .int .u8 pk.d0, .int .u8 pk.d1, .int .u8 pk.d2, .int .u8 pk.d3, .string pk.data].toArray] (TabP tp m wt T) (fun _ : Unit => True)
    (fun _ => .tuple #[.agg (encPk (T.put m wt now pk).1.1).toArray, .bool (T.put m wt now pk).1.2.1, .int .i64 (T.put m wt now pk).1.2.2]) (fun _ => TabP tp m wt (T.put m wt now pk).2) := by
  by_cases ht : timC T.now now = 0
  · have hp := hT.pass (wt := wt) ht
    by_cases ho : pk.off = 0
    · by_cases hm : pk.more = true
      · rw [put_begin ht ho hm]; exact Put_begin tp m wt T now pk ht n hT hn hwt hd ho hm hp
      · have hm' : pk.more = false := by simpa using hm
        rw [put_whole ht ho hm']; exact Put_whole tp m wt T now pk ht n hT hn hwt hd ho hm'
    · cases hf : bfind (T.pass wt now).q (kyOf pk) with
      | none => rw [put_none ht ho hf]; exact Put_none tp m wt T now pk ht n hT hn hwt hd ho hf
      | some b =>
        rw [put_some ht ho hf]
        by_cases hs : sndC pk b.data.size = 0
        · rw [if_neg (fun n => n hs)]
          by_cases hm : pk.more = true
          · rw [if_pos hm]; exact Put_more tp m wt T now pk ht n hT hn hwt hd ho b hf hp hs hm
          · rw [if_neg hm]; exact Put_last tp m wt T now pk ht n hT hn hwt hd ho b hf hp hs (by simpa using hm)
        · rw [if_pos hs]
          exact Put_wrong tp m wt T now pk ht n hT hn hwt hd ho b hf hp hs
  · rw [putT_bad ht]; exact Put_bad tp m wt T now pk ht
end
end Go.Proofs.YtpkcniedaabpoaaGreat
namespace Go.Proofs.YtpkcniedaabpoaaGreat
open Go.SLA
set_option maxRecDepth 100000
attribute [local irreducible] J L K QL Rg FSpec OpV OpX Rd Back
theorem part_size (p : Pk) (a e : Nat) (h : e ≤ p.data.size) : (prt p a e).data.size = e - a := by
  show (p.data.extract a e).size = _
  rw [ByteArray.size_extract]
  omega
/-- What is true of each part. -/
def Part (p : Pk) (w : Nat) (x : Pk) : Prop := x.data.size ≤ w ∧ (0 ≤ x.off ∧ x.off ≤ 8191) ∧ x.id = p.id ∧ x.ttl = p.ttl ∧ x.proto = p.proto ∧ x.s0 = p.s0 ∧ x.s1 = p.s1 ∧ x.s2 = p.s2 ∧ x.s3 = p.s3 ∧ x.d0 = p.d0 ∧ x.d1 = p.d1 ∧ x.d2 = p.d2 ∧ x.d3 = p.d3
theorem prt_part {p : Pk} {w a e : Nat} (h : e ≤ p.data.size) (h2 : e - a ≤ w) (h3 : a ≤ 65528) : Part p w (prt p a e) := by
  refine ⟨by rw [part_size p a e h]; exact h2, ⟨?_, ?_⟩, rfl, rfl, rfl, rfl, rfl, rfl, rfl, rfl, rfl, rfl, rfl⟩
  · show 0 ≤ ((a / 8 : Nat) : Int); omega
  · show ((a / 8 : Nat) : Int) ≤ 8191; omega
theorem splitL_part {p : Pk} {w r : Nat} (hr : 0 < r) (hw : r ≤ w) (hz : p.data.size ≤ 65515) (a : Nat) (ha : a ≤ p.data.size) : ∀ x ∈ splitL p w r a, Part p w x :=
  splitL_ind (p := p) (w := w) (r := r) (M := fun a l => a ≤ p.data.size → ∀ x ∈ l, Part p w x) (fun a h ha x hx => by rw [List.mem_singleton.1 hx]; exact prt_part (Nat.le_refl _) (by omega) (by omega)) (fun a l h ih ha x hx => by
    rcases List.mem_cons.1 hx with rfl | hx
    · exact prt_part (by omega) (by omega) (by omega)
    · exact ih (by omega) x hx) hr a ha
end Go.Proofs.YtpkcniedaabpoaaGreat
namespace Go.Proofs.YtpkcniedaabpoaaGreat
open Go.SLA
set_option maxRecDepth 100000
attribute [local irreducible] J L K QL Rg FSpec OpV OpX Rd Back
theorem tim0 {a b : Int} (h : a ≤ b) (hb : b ≤ 1125899906842624) : timC a b = 0 := by unfold timC; rw [if_neg (by omega), if_neg (by omega)]
theorem tok0 : TOk 0 ts0 := ⟨⟨Int.le_refl _, by decide⟩, fun b hb => (by cases hb), List.nodup_nil, Int.le_refl _, Int.le_refl _⟩
theorem put_now (T : TS) (m wt now : Int) (p : Pk) : (T.put m wt now p).2.now = T.now ∨ (T.put m wt now p).2.now = now := by
  have hb : ((T.pass wt now).begn m p).2.now = now := by
    have hf : ((T.pass wt now).free (kyOf p)).now = now := by unfold TS.free; split <;> rfl
    by_cases h1 : sndC p 0 = 0
    · by_cases h2 : m ≤ (((T.pass wt now).free (kyOf p)).q.length : Int)
      · rw [begn_full h1 h2]; exact hf
      · rw [begn_ok h1 h2]; exact hf
    · rw [begn_bad h1]; exact hf
  by_cases ht : timC T.now now = 0
  · right
    by_cases ho : p.off = 0
    · cases hm : p.more with
      | false => rw [put_whole ht ho hm]; rfl
      | true => rw [put_begin ht ho hm]; exact hb
    · cases hf : bfind (T.pass wt now).q (kyOf p) with
      | none => rw [put_none ht ho hf]; rfl
      | some b =>
        rw [put_some ht ho hf]
        split
        · rfl
        · split <;> rfl
  · left; rw [putT_bad ht]
def Fresh (wt now : Int) (T : TS) : Prop := ∀ b ∈ T.q, ¬ wt < now - b.t
theorem pass_fresh {wt now : Int} {T : TS} (h : Fresh wt now T) : T.pass wt now = ⟨T.q, now, T.dr⟩ := pass_stop (q := T.q) (n0 := T.now) (d := T.dr) (fun b hb => h b (List.mem_of_mem_head? hb))
theorem bfind_upd {q : List Bg} {k k' : Ky} {d : ByteArray} : bfind (upd q k d) k' = (bfind q k').map fun b => if b.k = k then ⟨b.k, b.t, b.data ++ d⟩ else b := by
  unfold bfind upd
  rw [List.find?_map]
  congr 1
  congr 1
  funext b
  show decide ((if b.k = k then (⟨b.k, b.t, b.data ++ d⟩ : Bg) else b).k = k') = decide (b.k = k')
  split <;> rfl
theorem bfind_k {q : List Bg} {k : Ky} {b : Bg} (h : bfind q k = some b) : b.k = k := by
  have := List.find?_some h
  simpa using this
theorem ext_cat (s : ByteArray) (a e : Nat) (h : a ≤ e) : s.extract 0 a ++ s.extract a e = s.extract 0 e := by
  rw [ByteArray.extract_append_extract]
  congr 1 <;> omega
theorem ext_all (s : ByteArray) : s.extract 0 s.size = s := by simp
/-- What is true behind so many parts. -/
structure WInv (p : Pk) (L : List Pk) (w r n i a : Nat) (T : TS) : Prop where
  le : i ≤ L.length
  ok : TOk n T
  now : T.now ≤ i
  rest : i < L.length → L.drop i = splitL p w r a ∧ a % 8 = 0 ∧ a ≤ p.data.size ∧ (i = 0 → a = 0 ∧ T = ⟨[], 0, 0⟩) ∧ (0 < i → 0 < a ∧ ∃ b, bfind T.q (kyOf p) = some b ∧ b.data = p.data.extract 0 a)
theorem TOk.fresh {n : Nat} {T : TS} (h : TOk n T) {wt now : Int} (hn : now ≤ wt) : Fresh wt now T := fun b hb => by
  have := (h.bg b hb).1
  omega
theorem drop_get? {L : List Pk} {i : Nat} {x : Pk} {l : List Pk} (h : L.drop i = x :: l) : L[i]? = some x ∧ L.drop (i + 1) = l ∧ L.length = i + 1 + l.length := by
  have h1 : L[i]? = some x := by
    have := congrArg (fun l : List Pk => l[0]?) h
    simpa using this
  have h2 : L.drop (i + 1) = l := by
    rw [← List.drop_drop, h]
    rfl
  refine ⟨h1, h2, ?_⟩
  have := congrArg List.length h2
  rw [List.length_drop] at this
  have hl := klt h1
  omega
theorem WInv.step {p : Pk} {L : List Pk} {w r n i a : Nat} {T : TS} (h : WInv p L w r n i a T) (hi : i < L.length) (hm : p.more = false) (ho : p.off = 0) (hz : p.data.size ≤ 8200) (hr : r % 8 = 0 ∧ 0 < r ∧ r ≤ w) (hL : L.length ≤ 100000) :
    ∃ x a', L[i]? = some x ∧ (T.put 1 100000 i x).1 = (if i + 1 = L.length then (p, true, 0) else (pkz, false, 0)) ∧ WInv p L w r (n + 1) (i + 1) a' (T.put 1 100000 i x).2 := by
  obtain ⟨h1, h2, h3, h4, h5⟩ := h.rest hi
  have hf := h.ok.fresh (wt := 100000) (now := i) (by omega)
  have hp := pass_fresh hf
  have ht : timC T.now i = 0 := tim0 h.now (by omega)
  have hput := fun x => h.ok.put 1 100000 i x
  have hnw := fun x => put_now T 1 100000 i x
  have hnow := h.now
  by_cases hc : a + w < p.data.size
  · rw [splitL_a hc hr.2.1] at h1
    obtain ⟨g1, g2, g3⟩ := drop_get? h1
    have hne : 0 < (splitL p w r (a + r)).length := by rw [splitL]; split <;> simp
    have hps := part_size p a (a + r) (by omega)
    have hx : kyOf (prt p a (a + r)) = kyOf p := rfl
    have hxm : (prt p a (a + r)).more = true := decide_eq_true (by omega)
    have hs : sndC (prt p a (a + r)) a = 0 := by
      unfold sndC
      rw [if_neg (by rintro (g | g); omega; exact g rfl), if_neg (by rintro ⟨_, g⟩; rw [hps] at g; omega), if_neg (by rw [hps]; omega)]
    refine ⟨prt p a (a + r), a + r, g1, ?_⟩
    rw [if_neg (by omega)]
    have rest' : i + 1 < L.length → L.drop (i + 1) = splitL p w r (a + r) ∧ (a + r) % 8 = 0 ∧ a + r ≤ p.data.size := fun _ => ⟨g2, by omega, by omega⟩
    rcases Nat.eq_zero_or_pos i with rfl | hi0
    · obtain ⟨rfl, rfl⟩ := h4 rfl
      have hbeg : TS.put ⟨[], 0, 0⟩ 1 100000 ((0 : Nat) : Int) (prt p 0 (0 + r)) = ((pkz, false, 0), ⟨[⟨kyOf p, 0, (prt p 0 (0 + r)).data⟩], 0, 0⟩) := by
        rw [put_begin ht rfl hxm, hp]
        have hfr : TS.free ⟨[], ((0 : Nat) : Int), 0⟩ (kyOf (prt p 0 (0 + r))) = ⟨[], 0, 0⟩ := if_neg (fun h => by cases h)
        rw [begn_ok hs (by rw [hfr]; show ¬ (1 : Int) ≤ ((0 : Nat) : Int); decide), hfr]
        rfl
      refine ⟨by rw [hbeg], ⟨by omega, hput _, by have := hnw (prt p 0 (0 + r)); dsimp only at this; omega, fun g => ?_⟩⟩
      obtain ⟨q1, q2, q3⟩ := rest' g
      refine ⟨q1, q2, q3, fun e => by omega, fun _ => ⟨by omega, ⟨kyOf p, 0, (prt p 0 (0 + r)).data⟩, ?_, rfl⟩⟩
      rw [hbeg]
      unfold bfind
      simp
    · obtain ⟨ha, b, hb, hbd⟩ := h5 hi0
      have hbs : b.data.size = a := by rw [hbd, ByteArray.size_extract]; omega
      have hox : (prt p a (a + r)).off ≠ 0 := by show ((a / 8 : Nat) : Int) ≠ 0; omega
      have hb' : bfind (T.pass 100000 i).q (kyOf (prt p a (a + r))) = some b := by rw [hp, hx]; exact hb
      have hmid : T.put 1 100000 i (prt p a (a + r)) = ((pkz, false, 0), ⟨upd T.q (kyOf p) (prt p a (a + r)).data, i, T.dr⟩) := by
        rw [put_some ht hox hb', hbs, if_neg (fun n => n hs), if_pos hxm, hp, hx]
      refine ⟨by rw [hmid], ⟨by omega, hput _, by have := hnw (prt p a (a + r)); omega, fun g => ?_⟩⟩
      obtain ⟨q1, q2, q3⟩ := rest' g
      refine ⟨q1, q2, q3, fun e => by omega, fun _ => ⟨by omega, ⟨b.k, b.t, b.data ++ (prt p a (a + r)).data⟩, ?_, ?_⟩⟩
      · rw [hmid]
        show bfind (upd T.q (kyOf p) _) (kyOf p) = _
        rw [bfind_upd, hb]
        simp only [Option.map_some]
        rw [if_pos (bfind_k hb)]
      · show b.data ++ p.data.extract a (a + r) = _
        rw [hbd, ext_cat _ _ _ (by omega)]
  · rw [splitL_b hc] at h1
    obtain ⟨g1, g2, g3⟩ := drop_get? h1
    have g3' : L.length = i + 1 := g3
    have hps := part_size p a p.data.size (Nat.le_refl _)
    have hxm : (prt p a p.data.size).more = false := decide_eq_false (by omega)
    have hx : kyOf (prt p a p.data.size) = kyOf p := rfl
    refine ⟨prt p a p.data.size, 0, g1, ?_⟩
    rw [if_pos g3'.symm]
    have fin : ∀ hh : (T.put 1 100000 i (prt p a p.data.size)).1 = (p, true, 0), (T.put 1 100000 i (prt p a p.data.size)).1 = (p, true, 0) ∧ WInv p L w r (n + 1) (i + 1) 0 (T.put 1 100000 i (prt p a p.data.size)).2 := fun hh =>
      ⟨hh, ⟨by omega, hput _, by have := hnw (prt p a p.data.size); omega, fun g => by omega⟩⟩
    rcases Nat.eq_zero_or_pos i with rfl | hi0
    · obtain ⟨rfl, rfl⟩ := h4 rfl
      refine fin ?_
      rw [put_whole ht rfl hxm]
      show ((⟨p.id, decide _, ((0 / 8 : Nat) : Int), p.ttl, p.proto, p.s0, p.s1, p.s2, p.s3, p.d0, p.d1, p.d2, p.d3, p.data.extract 0 p.data.size⟩ : Pk), true, (0 : Int)) = _
      rw [decide_eq_false (by omega), ext_all, ← hm]
      congr 1
      cases p
      dsimp only at ho ⊢
      rw [ho]
      rfl
    · obtain ⟨ha, b, hb, hbd⟩ := h5 hi0
      have hbs : b.data.size = a := by rw [hbd, ByteArray.size_extract]; omega
      have hox : (prt p a p.data.size).off ≠ 0 := by show ((a / 8 : Nat) : Int) ≠ 0; omega
      have hb' : bfind (T.pass 100000 i).q (kyOf (prt p a p.data.size)) = some b := by rw [hp, hx]; exact hb
      have hs : sndC (prt p a p.data.size) a = 0 := by
        unfold sndC
        rw [if_neg (by rintro (g | g); omega; exact g rfl), if_neg (by rintro ⟨g, _⟩; rw [hxm] at g; cases g), if_neg (by rw [hps]; omega)]
      refine fin ?_
      rw [put_some ht hox hb', hbs, if_neg (fun n => n hs), if_neg (by rw [hxm]; decide)]
      show ((⟨p.id, decide _, 0, p.ttl, p.proto, p.s0, p.s1, p.s2, p.s3, p.d0, p.d1, p.d2, p.d3, b.data ++ p.data.extract a p.data.size⟩ : Pk), true, (0 : Int)) = _
      rw [decide_eq_false (by omega), hbd, ext_cat _ _ _ h3, ext_all, ← hm]
      congr 1
      cases p
      dsimp only at ho ⊢
      rw [ho]
end Go.Proofs.YtpkcniedaabpoaaGreat
