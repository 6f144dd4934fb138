/- What a table of the package reasm is behind each call, the example of the package pitotlaw09, and the laws that say so; they are used by the texts that import this one. -/
import Derived.Test.YtjpbpfihacfndaaRe
import Derived.Test.YtjpbpfihacfndaaH
namespace Go.Proofs.Ytjpbpfihacfndaa
open Go.SLA
set_option maxRecDepth 100000
set_option linter.unusedVariables false
set_option linter.unusedSimpArgs false
attribute [local irreducible] J L K QL Rg FSpec OpV OpX Rd Back

theorem timC_ok {a b : Int} (h : timC a b = 0) : a ≤ b ∧ b ≤ 1125899906842624 := by
  unfold timC at h
  split at h
  · cases h
  · split at h
    · cases h
    · omega
theorem TOk.pass {n : Nat} {T : TS} (h : TOk n T) {wt now : Int} (ht : timC T.now now = 0) : TOk n (T.pass wt now) := by
  have h1 := timC_ok ht
  have h2 := h.now
  have hs := List.dropWhile_sublist (late wt now) (l := T.q)
  have hl := congrArg List.length (List.takeWhile_append_dropWhile (p := late wt now) (l := T.q))
  rw [List.length_append] at hl
  have hd := h.dr
  have hn := h.n
  refine ⟨?_, fun b hb => h.bg b (hs.subset hb), h.nd.sublist (hs.map _), ?_, ?_⟩
  · show 0 ≤ now ∧ now ≤ _; omega
  · show 0 ≤ T.dr + ((T.q.takeWhile (late wt now)).length : Int); omega
  · show T.dr + ((T.q.takeWhile (late wt now)).length : Int) + ((T.q.dropWhile (late wt now)).length : Int) ≤ _; omega
theorem TOk.more {n : Nat} {T : TS} (h : TOk n T) : TOk (n + 1) T := ⟨h.now, h.bg, h.nd, h.dr, by have := h.n; omega⟩
theorem TOk.begn {n : Nat} {T : TS} (h : TOk n T) (m : Int) (pk : Pk) : TOk (n + 1) (T.begn m pk).2 := by
  have hf := h.free (kyOf pk)
  by_cases h1 : sndC pk 0 = 0
  · by_cases h2 : m ≤ ((T.free (kyOf pk)).q.length : Int)
    · rw [begn_full h1 h2]; exact hf.more
    · rw [begn_ok h1 h2]
      have hz := snd_size h1
      have hno := free_not (T := T) (k := kyOf pk)
      refine ⟨hf.now, fun b hb => ?_, ?_, hf.dr, ?_⟩
      · rcases List.mem_append.1 hb with hb | hb
        · exact hf.bg b hb
        · rw [List.mem_singleton.1 hb]
          have := hf.now
          exact ⟨by dsimp only; omega, by dsimp only; omega⟩
      · unfold keysOf
        rw [List.map_append, List.nodup_append]
        refine ⟨hf.nd, by simp, fun a ha c hc => ?_⟩
        simp only [List.map_cons, List.map_nil, List.mem_singleton] at hc
        rintro rfl
        exact hno (hc ▸ ha)
      · have := hf.n
        show (T.free (kyOf pk)).dr + (((T.free (kyOf pk)).q ++ [_]).length : Int) ≤ _
        rw [List.length_append, List.length_singleton]
        omega
  · rw [begn_bad h1]; exact hf.more
theorem TOk.wob {n : Nat} {T : TS} (h : TOk n T) {b : Bg} {k : Ky} (hf : bfind T.q k = some b) (d : Int) (hd : d = T.dr ∨ d = T.dr + 1) : TOk n ⟨wob T.q k, T.now, d⟩ := by
  have hb : b.k = k ∧ b ∈ T.q := ⟨by have := List.find?_some hf; simpa using this, List.mem_of_find?_eq_some hf⟩
  have hl := wob_lt (q := T.q) (k := k) (List.mem_map.2 ⟨b, hb.2, hb.1⟩)
  have hs := wob_sub T.q k
  have h1 := h.dr
  have h2 := h.n
  exact ⟨h.now, fun b hb => h.bg b (hs.subset hb), h.nd.sublist (hs.map _), by dsimp only; omega, by dsimp only; omega⟩
theorem TOk.upd {n : Nat} {T : TS} (h : TOk n T) {b : Bg} {k : Ky} {d : ByteArray} (hf : bfind T.q k = some b) (hs : b.data.size + d.size ≤ 8200) : TOk n ⟨upd T.q k d, T.now, T.dr⟩ := by
  refine ⟨h.now, fun c hc => ?_, by dsimp only; rw [keysOf_upd]; exact h.nd, h.dr, by have := h.n; unfold _root_.Go.Proofs.Ytjpbpfihacfndaa.upd; dsimp only; rw [List.length_map]; exact this⟩
  obtain ⟨e, he, rfl⟩ := List.mem_map.1 hc
  have hb : b.k = k ∧ b ∈ T.q := ⟨by have := List.find?_some hf; simpa using this, List.mem_of_find?_eq_some hf⟩
  by_cases hk : e.k = k
  · rw [if_pos hk]
    have heb : e = b := by
      obtain ⟨i, hi⟩ := List.getElem?_of_mem he
      obtain ⟨j, hj⟩ := List.getElem?_of_mem hb.2
      have hp := List.pairwise_iff_getElem.1 h.nd
      have hi' := klt hi
      have hj' := klt hj
      rw [List.getElem?_eq_getElem hi'] at hi
      rw [List.getElem?_eq_getElem hj'] at hj
      simp only [Option.some.injEq] at hi hj
      have hik : i < (keysOf T.q).length := by rw [keysOf_len]; exact hi'
      have hjk : j < (keysOf T.q).length := by rw [keysOf_len]; exact hj'
      have e1 : (keysOf T.q)[i] = (keysOf T.q)[j] := by
        show (T.q.map (·.k))[i]'(by simpa [keysOf] using hik) = (T.q.map (·.k))[j]'(by simpa [keysOf] using hjk)
        rw [List.getElem_map, List.getElem_map, hi, hj, hk, hb.1]
      rcases Nat.lt_trichotomy i j with hl | rfl | hl
      · exact absurd e1 (hp i j hik hjk hl)
      · rw [← hi, ← hj]
      · exact absurd e1.symm (hp j i hjk hik hl)
    have := h.bg e he
    rw [heb] at this ⊢
    exact ⟨this.1, by dsimp only; rw [ByteArray.size_append]; exact hs⟩
  · rw [if_neg hk]; exact h.bg e he
/-- A part comes: what that answers, and what is then. -/
def TS.put (T : TS) (m wt now : Int) (p : Pk) : (Pk × Bool × Int) × TS :=
  if timC T.now now ≠ 0 then ((pkz, false, timC T.now now), T)
  else if p.off = 0 then
    if p.more = false then ((p, true, 0), T.pass wt now) else ((pkz, false, ((T.pass wt now).begn m p).1), ((T.pass wt now).begn m p).2)
  else match bfind (T.pass wt now).q (kyOf p) with
    | none => ((pkz, false, 25), T.pass wt now)
    | some b => if sndC p b.data.size ≠ 0 then ((pkz, false, sndC p b.data.size), ⟨wob (T.pass wt now).q (kyOf p), (T.pass wt now).now, (T.pass wt now).dr + 1⟩)
      else if p.more = true then ((pkz, false, 0), ⟨upd (T.pass wt now).q (kyOf p) p.data, (T.pass wt now).now, (T.pass wt now).dr⟩)
      else (({ p with off := 0, data := b.data ++ p.data }, true, 0), ⟨wob (T.pass wt now).q (kyOf p), (T.pass wt now).now, (T.pass wt now).dr⟩)
section
variable {T : TS} {m wt now : Int} {p : Pk}
theorem put_bad (h : timC T.now now ≠ 0) : T.put m wt now p = ((pkz, false, timC T.now now), T) := if_pos h
theorem put_whole (h : timC T.now now = 0) (ho : p.off = 0) (hm : p.more = false) : T.put m wt now p = ((p, true, 0), T.pass wt now) := by unfold TS.put; rw [if_neg (fun n => n h), if_pos ho, if_pos hm]
theorem put_begin (h : timC T.now now = 0) (ho : p.off = 0) (hm : p.more = true) : T.put m wt now p = ((pkz, false, ((T.pass wt now).begn m p).1), ((T.pass wt now).begn m p).2) := by unfold TS.put; rw [if_neg (fun n => n h), if_pos ho, if_neg (by rw [hm]; decide)]
theorem put_none (h : timC T.now now = 0) (ho : p.off ≠ 0) (hf : bfind (T.pass wt now).q (kyOf p) = none) : T.put m wt now p = ((pkz, false, 25), T.pass wt now) := by unfold TS.put; rw [if_neg (fun n => n h), if_neg ho, hf]
theorem put_some {b : Bg} (h : timC T.now now = 0) (ho : p.off ≠ 0) (hf : bfind (T.pass wt now).q (kyOf p) = some b) : T.put m wt now p = if sndC p b.data.size ≠ 0 then ((pkz, false, sndC p b.data.size), ⟨wob (T.pass wt now).q (kyOf p), (T.pass wt now).now, (T.pass wt now).dr + 1⟩)
      else if p.more = true then ((pkz, false, 0), ⟨upd (T.pass wt now).q (kyOf p) p.data, (T.pass wt now).now, (T.pass wt now).dr⟩)
      else (({ p with off := 0, data := b.data ++ p.data }, true, 0), ⟨wob (T.pass wt now).q (kyOf p), (T.pass wt now).now, (T.pass wt now).dr⟩) := by unfold TS.put; rw [if_neg (fun n => n h), if_neg ho, hf]
theorem TOk.put {n : Nat} (h : TOk n T) (m wt now : Int) (p : Pk) : TOk (n + 1) (T.put m wt now p).2 := by
  by_cases ht : timC T.now now = 0
  · have hp := h.pass (wt := wt) ht
    by_cases ho : p.off = 0
    · cases hm : p.more with
      | false => rw [put_whole ht ho hm]; exact hp.more
      | true => rw [put_begin ht ho hm]; exact hp.begn m p
    · cases hf : bfind (T.pass wt now).q (kyOf p) with
      | none => rw [put_none ht ho hf]; exact hp.more
      | some b =>
        rw [put_some ht ho hf]
        by_cases hs : sndC p b.data.size = 0
        · rw [if_neg (fun n => n hs)]
          have hz := snd_size hs
          split
          · exact (hp.upd hf hz).more
          · exact (hp.wob hf _ (.inl rfl)).more
        · rw [if_pos hs]
          exact (hp.wob hf _ (.inr rfl)).more
  · rw [put_bad ht]; exact h.more
theorem Put_any (tp : Nat) (m wt : Int) (T : TS) (now : Int) (pk : Pk) (n : Nat) (hT : TOk n T) (hn : n ≤ 1000000) (hwt : 0 ≤ wt ∧ wt ≤ 1125899906842624) (hd : pk.data.size ≤ 140737488351232) : FSpec Try.prog 32 #[.pointer (some (ad tp 0)), .int .i64 now, .agg [.int .i64 pk.id, .bool pk.more, .int .i64 pk.off, .int .i64 pk.ttl, .int .i64 pk.proto, .int .u8 pk.s0, .int .u8 pk.s1, .int .u8 pk.s2, .int .u8 pk.s3, .int .u8 pk.d0, .int .u8 pk.d1, .int .u8 pk.d2, .int .u8 pk.d3, .string pk.data].toArray] (TabP tp m wt T) (fun _ : Unit => True)
    (fun _ => .tuple #[.agg (encPk (T.put m wt now pk).1.1).toArray, .bool (T.put m wt now pk).1.2.1, .int .i64 (T.put m wt now pk).1.2.2]) (fun _ => TabP tp m wt (T.put m wt now pk).2) := by
  by_cases ht : timC T.now now = 0
  · have hp := hT.pass (wt := wt) ht
    by_cases ho : pk.off = 0
    · by_cases hm : pk.more = true
      · rw [put_begin ht ho hm]; exact Put_begin tp m wt T now pk ht n hT hn hwt hd ho hm hp
      · have hm' : pk.more = false := by simpa using hm
        rw [put_whole ht ho hm']; exact Put_whole tp m wt T now pk ht n hT hn hwt hd ho hm'
    · cases hf : bfind (T.pass wt now).q (kyOf pk) with
      | none => rw [put_none ht ho hf]; exact Put_none tp m wt T now pk ht n hT hn hwt hd ho hf
      | some b =>
        rw [put_some ht ho hf]
        by_cases hs : sndC pk b.data.size = 0
        · rw [if_neg (fun n => n hs)]
          by_cases hm : pk.more = true
          · rw [if_pos hm]; exact Put_more tp m wt T now pk ht n hT hn hwt hd ho b hf hp hs hm
          · rw [if_neg hm]; exact Put_last tp m wt T now pk ht n hT hn hwt hd ho b hf hp hs (by simpa using hm)
        · rw [if_pos hs]
          exact Put_wrong tp m wt T now pk ht n hT hn hwt hd ho b hf hp hs
  · rw [put_bad ht]; exact Put_bad tp m wt T now pk ht
end

end Go.Proofs.Ytjpbpfihacfndaa
