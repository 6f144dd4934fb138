/- Plain laws of the document's table beside ours; used by the texts that import this one. -/
import Derived.Test.YtjpbpfihacfndaaRk
import Derived.Test.YtjpbpfihacfndaaH
namespace Go.Proofs.Ytjpbpfihacfndaa
open Go.SLA
set_option maxRecDepth 100000
set_option linter.unusedVariables false
set_option linter.unusedSimpArgs false
attribute [local irreducible] J L K QL Rg FSpec OpV OpX Rd Back

/-- A packet that the document's table has begun. -/
structure Bgr where
  p : Pk
  t : Int
  data : ByteArray
def encB (b : Bgr) : List Value := [.int .i64 b.p.id, .bool b.p.more, .int .i64 b.p.off, .int .i64 b.p.ttl, .int .i64 b.p.proto, .string (bytesL [b.p.s0, b.p.s1, b.p.s2, b.p.s3]), .string (bytesL [b.p.d0, b.p.d1, b.p.d2, b.p.d3]), .string b.p.data, .int .i64 b.t, .string b.data]
theorem encB_len (b : Bgr) : (encB b).length = 10 := rfl
theorem encB_one (b : Bgr) : ∀ u ∈ encB b, u.oneCell' = true := by
  intro u hu
  simp only [encB, List.mem_cons, List.not_mem_nil, or_false] at hu
  rcases hu with rfl | rfl | rfl | rfl | rfl | rfl | rfl | rfl | rfl | rfl <;> rfl
def Bgr.bg (b : Bgr) : Bg := ⟨kyOf b.p, b.t, b.data⟩
def qB (B : List Bgr) : List Bg := B.map Bgr.bg
theorem qB_len (B : List Bgr) : (qB B).length = B.length := List.length_map ..
/-- The first place of a packet's key. -/
def fB (B : List Bgr) (x : Pk) : Nat := fix (keysOf (qB B)) (kyOf x)
theorem fB_le (B : List Bgr) (x : Pk) : fB B x ≤ B.length := by
  have := fix_le (keysOf (qB B)) (kyOf x)
  rw [keysOf_len, qB_len] at this
  exact this
theorem keysB_get {B : List Bgr} {i : Nat} {b : Bgr} (h : B[i]? = some b) : (keysOf (qB B))[i]? = some (kyOf b.p) := by
  unfold keysOf qB
  rw [List.getElem?_map, List.getElem?_map, h]
  rfl
theorem fB_here {B : List Bgr} {x : Pk} {i : Nat} {b : Bgr} (hi : i ≤ fB B x) (h : B[i]? = some b) (hk : kyOf b.p = kyOf x) : fB B x = i := fix_here hi (keysB_get h) hk
theorem fB_next {B : List Bgr} {x : Pk} {i : Nat} {b : Bgr} (hi : i ≤ fB B x) (h : B[i]? = some b) (hk : ¬ kyOf b.p = kyOf x) : i + 1 ≤ fB B x := fix_next hi (keysB_get h) hk
theorem bfind_fix (k : Ky) : ∀ q : List Bg, bfind q k = q[fix (keysOf q) k]?
  | [] => rfl
  | b :: q => by
    have ih := bfind_fix k q
    unfold bfind keysOf fix at ih ⊢
    by_cases h : b.k = k
    · simp [List.findIdx_cons, h]
    · simp only [List.find?_cons, List.map_cons, List.findIdx_cons, h, decide_false, cond_false, List.getElem?_cons_succ]
      exact ih
theorem fix_cons_ne {b : Bg} {q : List Bg} {k : Ky} (h : ¬ b.k = k) : fix (keysOf (b :: q)) k = fix (keysOf q) k + 1 := by
  unfold fix keysOf
  simp [List.findIdx_cons, h]
theorem fix_cons_eq {b : Bg} {q : List Bg} {k : Ky} (h : b.k = k) : fix (keysOf (b :: q)) k = 0 := by
  unfold fix keysOf
  simp [List.findIdx_cons, h]
theorem no_key {q : List Bg} {k : Ky} (h : k ∉ keysOf q) : wob q k = q ∧ ∀ d, upd q k d = q := by
  have h2 : ∀ b ∈ q, ¬ b.k = k := fun b hb e => h (by rw [← e]; exact List.mem_map_of_mem hb)
  constructor
  · exact List.filter_eq_self.2 fun b hb => by simp [h2 b hb]
  · intro d
    unfold upd
    conv => rhs; rw [← List.map_id q]
    exact List.map_congr_left fun b hb => by rw [if_neg (h2 b hb)]; rfl
theorem wob_erase {k : Ky} : ∀ {q : List Bg}, (keysOf q).Nodup → k ∈ keysOf q → wob q k = q.take (fix (keysOf q) k) ++ q.drop (fix (keysOf q) k + 1)
  | [], _, h => by cases h
  | b :: q, hn, h => by
    have h2 := List.nodup_cons.1 (show (b.k :: keysOf q).Nodup from hn)
    by_cases e : b.k = k
    · subst e
      rw [(tl_wo hn).2, fix_cons_eq rfl]
      rfl
    · rw [fix_cons_ne e]
      have hk : k ∈ keysOf q := by
        rcases List.mem_cons.1 (show k ∈ b.k :: keysOf q from h) with g | g
        · exact absurd g.symm e
        · exact g
      have ih := wob_erase h2.2 hk
      unfold wob at ih ⊢
      rw [List.filter_cons, if_pos (by simp [e]), ih]
      rfl
theorem upd_set {k : Ky} {d : ByteArray} {c : Bg} : ∀ {q : List Bg}, (keysOf q).Nodup → q[fix (keysOf q) k]? = some c → upd q k d = q.set (fix (keysOf q) k) ⟨c.k, c.t, c.data ++ d⟩
  | [], _, h => by cases h
  | b :: q, hn, h => by
    have h2 := List.nodup_cons.1 (show (b.k :: keysOf q).Nodup from hn)
    by_cases e : b.k = k
    · subst e
      rw [fix_cons_eq rfl] at h ⊢
      simp only [List.getElem?_cons_zero, Option.some.injEq] at h
      subst h
      have := (no_key h2.1).2 d
      unfold upd at this ⊢
      rw [List.map_cons, if_pos rfl, this]
      rfl
    · rw [fix_cons_ne e] at h ⊢
      simp only [List.getElem?_cons_succ] at h
      have ih := upd_set (d := d) h2.2 h
      unfold upd at ih ⊢
      rw [List.map_cons, if_neg e, ih]
      rfl
/-- In order of their ticks. -/
def Srt (T : TS) : Prop := T.q.Pairwise (fun a b => a.t ≤ b.t) ∧ ∀ b ∈ T.q, b.t ≤ T.now
def keepB (wt now : Int) (b : Bgr) : Bool := decide (now - b.t ≤ wt)
theorem pass_filter {wt now : Int} : ∀ {q : List Bg}, q.Pairwise (fun a b => a.t ≤ b.t) → q.dropWhile (late wt now) = q.filter (fun b => decide (now - b.t ≤ wt)) ∧ (q.takeWhile (late wt now)).length + (q.filter (fun b => decide (now - b.t ≤ wt))).length = q.length
  | [], _ => ⟨rfl, rfl⟩
  | b :: q, h => by
    obtain ⟨h1, h2⟩ := List.pairwise_cons.1 h
    have ih := pass_filter (wt := wt) (now := now) h2
    by_cases hl : wt < now - b.t
    · have e : late wt now b = true := decide_eq_true hl
      have e2 : decide (now - b.t ≤ wt) = false := decide_eq_false (by omega)
      rw [List.dropWhile_cons, List.takeWhile_cons, List.filter_cons, e, e2]
      simp only [if_true, Bool.false_eq_true, if_false, List.length_cons]
      exact ⟨ih.1, by omega⟩
    · have e : late wt now b = false := decide_eq_false hl
      have e2 : (b :: q).filter (fun b => decide (now - b.t ≤ wt)) = b :: q := List.filter_eq_self.2 fun c hc => by
        rcases List.mem_cons.1 hc with rfl | hc
        · exact decide_eq_true (by omega)
        · have := h1 c hc
          exact decide_eq_true (by omega)
      rw [List.dropWhile_cons, List.takeWhile_cons, e, e2]
      simp
theorem filterB {wt now : Int} (B : List Bgr) : qB (B.filter (keepB wt now)) = (qB B).filter (fun b => decide (now - b.t ≤ wt)) := by
  unfold qB
  rw [List.filter_map]
  rfl
theorem Srt.pass {T : TS} {wt now : Int} (h : Srt T) (hn : timC T.now now = 0) : Srt (T.pass wt now) := by
  have hnow : T.now ≤ now := by unfold timC at hn; split at hn; cases hn; split at hn; cases hn; omega
  have hs : (T.q.dropWhile (late wt now)).Sublist T.q := List.dropWhile_sublist _
  exact ⟨h.1.sublist hs, fun b hb => by have := h.2 b (hs.subset hb); show b.t ≤ now; omega⟩
theorem Srt.wob {T : TS} {k : Ky} {d : Int} (h : Srt T) : Srt ⟨wob T.q k, T.now, d⟩ := ⟨h.1.sublist (wob_sub _ _), fun b hb => h.2 b ((wob_sub _ _).subset hb)⟩
theorem Srt.upd {T : TS} {k : Ky} {d : ByteArray} (h : Srt T) : Srt ⟨upd T.q k d, T.now, T.dr⟩ := by
  have ht : ∀ b : Bg, (if b.k = k then (⟨b.k, b.t, b.data ++ d⟩ : Bg) else b).t = b.t := fun b => by split <;> rfl
  refine ⟨?_, fun b hb => ?_⟩
  · show (T.q.map _).Pairwise _
    rw [List.pairwise_map]
    exact h.1.imp fun {a b} g => by rw [ht, ht]; exact g
  · obtain ⟨c, hc, rfl⟩ := List.mem_map.1 hb
    rw [ht]
    exact h.2 c hc
theorem Srt.free {T : TS} (h : Srt T) (k : Ky) : Srt (T.free k) := by
  unfold TS.free
  split
  · exact h.wob
  · exact h
theorem Srt.put {T : TS} (h : Srt T) (m wt now : Int) (p : Pk) : Srt (T.put m wt now p).2 := by
  by_cases ht : timC T.now now = 0
  · have hp := h.pass (wt := wt) ht
    by_cases ho : p.off = 0
    · cases hm : p.more with
      | false => rw [put_whole ht ho hm]; exact hp
      | true =>
        rw [put_begin ht ho hm]
        have hf := hp.free (kyOf p)
        by_cases h1 : sndC p 0 = 0
        · by_cases h2 : m ≤ (((T.pass wt now).free (kyOf p)).q.length : Int)
          · rw [begn_full h1 h2]; exact hf
          · rw [begn_ok h1 h2]
            refine ⟨?_, fun b hb => ?_⟩
            · show (_ ++ [_]).Pairwise _
              rw [List.pairwise_append]
              refine ⟨hf.1, List.pairwise_singleton _ _, fun a ha b hb => ?_⟩
              rw [List.mem_singleton.1 hb]
              exact hf.2 a ha
            · rcases List.mem_append.1 (show b ∈ _ ++ [_] from hb) with g | g
              · exact hf.2 b g
              · rw [List.mem_singleton.1 g]; exact Int.le_refl _
        · rw [begn_bad h1]; exact hf
    · cases hf : bfind (T.pass wt now).q (kyOf p) with
      | none => rw [put_none ht ho hf]; exact hp
      | some b =>
        rw [put_some ht ho hf]
        split
        · exact hp.wob
        · split
          · exact hp.upd
          · exact hp.wob
  · rw [put_bad ht]; exact h
theorem map_u8 : ∀ {a b : List Int}, a.map (Value.int .u8) = b.map (Value.int .u8) → a = b
  | [], [], _ => rfl
  | [], _ :: _, h => by cases h
  | _ :: _, [], h => by cases h
  | x :: a, y :: b, h => by
    simp only [List.map_cons, List.cons.injEq, Value.int.injEq, true_and] at h
    rw [h.1, map_u8 h.2]
theorem bytesL_inj {a b : List Int} (ha : ∀ v ∈ a, 0 ≤ v ∧ v < 256) (hb : ∀ v ∈ b, 0 ≤ v ∧ v < 256) (h : bytesL a = bytesL b) : a = b := by
  have := congrArg bts h
  rw [bts_bytesL a ha, bts_bytesL b hb] at this
  exact map_u8 this
def ks4 (x : Pk) : List Int := [x.s0, x.s1, x.s2, x.s3]
def kd4 (x : Pk) : List Int := [x.d0, x.d1, x.d2, x.d3]
theorem s_iff {x y : Pk} (hx : okA x) (hy : okA y) : bytesL [x.s0, x.s1, x.s2, x.s3] = bytesL [y.s0, y.s1, y.s2, y.s3] ↔ ks4 x = ks4 y := ⟨bytesL_inj hx.1 hy.1, fun h => congrArg bytesL h⟩
theorem d_iff {x y : Pk} (hx : okA x) (hy : okA y) : bytesL [x.d0, x.d1, x.d2, x.d3] = bytesL [y.d0, y.d1, y.d2, y.d3] ↔ kd4 x = kd4 y := ⟨bytesL_inj hx.2 hy.2, fun h => congrArg bytesL h⟩
theorem ky_iff {x y : Pk} : kyOf x = kyOf y ↔ ks4 x = ks4 y ∧ kd4 x = kd4 y ∧ x.proto = y.proto ∧ x.id = y.id := by
  unfold kyOf ks4 kd4
  simp only [Ky.mk.injEq, List.cons.injEq, and_true]
  constructor
  · rintro ⟨a, b, c, d, e, f, g, h, i, j⟩; exact ⟨⟨a, b, c, d⟩, ⟨e, f, g, h⟩, i, j⟩
  · rintro ⟨⟨a, b, c, d⟩, ⟨e, f, g, h⟩, i, j⟩; exact ⟨a, b, c, d, e, f, g, h, i, j⟩
theorem ft_get {α : Type} {en : α → List Value} {q : List α} {k j : Nat} {u : Value} (h : ((q.take k).flatMap en)[j]? = some u) : (q.flatMap en)[j]? = some u := by
  have e : q.flatMap en = (q.take k).flatMap en ++ (q.drop k).flatMap en := by rw [← List.flatMap_append, List.take_append_drop]
  rw [e, List.getElem?_append_left (klt h)]
  exact h
theorem fd_get {α : Type} {en : α → List Value} {m : Nat} (hm : ∀ x, (en x).length = m) {q : List α} {k j : Nat} {u : Value} (hk : k ≤ q.length) (h : ((q.drop k).flatMap en)[j]? = some u) : (q.flatMap en)[k * m + j]? = some u := by
  have e : q.flatMap en = (q.take k).flatMap en ++ (q.drop k).flatMap en := by rw [← List.flatMap_append, List.take_append_drop]
  have hl : ((q.take k).flatMap en).length = k * m := by rw [flat_len hm, List.length_take, Nat.min_eq_left hk]
  rw [e, List.getElem?_append_right (by omega), hl, Nat.add_sub_cancel_left]
  exact h
theorem Src.pre {P R : HProp} {e m len c k c' : Nat} {b o : Nat} {l news : List Value} [h : Take P (Own e m (.slice (some (ad b o)) len c) len l) R] (hn : ∀ (j : Nat) (u : Value), news[j]? = some u → l[j]? = some u) : SLA.Src P (.slice (some (ad b o)) k c') k news :=
  .inr ⟨b, o, c', rfl, fun j u hj => Rd.of_take (S := Own e m (.slice (some (ad b o)) len c) len l) (Rd.own (hn j u hj))⟩
theorem Src.post {P R : HProp} {e m len c k c' d : Nat} {b o : Nat} {l news : List Value} [h : Take P (Own e m (.slice (some (ad b o)) len c) len l) R] (hn : ∀ (j : Nat) (u : Value), news[j]? = some u → l[d + j]? = some u) : SLA.Src P (.slice (some (ad b (o + d))) k c') k news :=
  .inr ⟨b, o + d, c', rfl, fun j u hj => by rw [Nat.add_assoc]; exact Rd.of_take (S := Own e m (.slice (some (ad b o)) len c) len l) (Rd.own (hn j u hj))⟩
theorem Src.none {P : HProp} {b o c' : Nat} : SLA.Src P (.slice (some (ad b o)) 0 c') 0 [] := .inr ⟨b, o, c', rfl, fun j u hj => by simp at hj⟩
theorem Src.rest {P R : HProp} {e cap k n m : Nat} {α : Type} {en : α → List Value} (hm : ∀ x, (en x).length = m) {b o : Nat} {q : List α} [h : Take P (Own e m (.slice (some (ad b o)) q.length cap) q.length (q.flatMap en)) R] (hn : n = q.length - (k + 1)) (hk : k < q.length) (hcap : q.length ≤ cap) : SLA.Src P (cutV (some (ad b o)) (k + 1) q.length cap m) n ((q.drop (k + 1)).flatMap en) := by
  rw [cutV_at, ← hn]
  by_cases hc : cap = k + 1
  · rw [if_pos hc, List.drop_of_length_le (by omega), show n = 0 by omega]
    exact Src.none
  · rw [if_neg hc]
    exact Src.post (h := h) fun j u hj => fd_get hm (by omega) hj
theorem own_cap {σ w : World} {P : HProp} {e m len c : Nat} {A : Option Addr} {l : List Value} (h : Sat σ w (sep (Own e m (.slice A len c) len l) (P))) : len ≤ c ∧ c ≤ maxLen := by
  obtain ⟨A', cap, e1, h2, h3, _⟩ := own_val h
  simp only [Value.slice.injEq] at e1
  obtain ⟨_, _, rfl⟩ := e1
  exact ⟨h2, h3⟩
theorem RdS.rdf {S : HProp} {α : Type} {en : α → List Value} {m : Nat} {xs : List α} {b o : Nat} (h : RdS S en m (some (ad b o)) xs) {i : Nat} {x : α} (hx : xs[i]? = some x) (d : Nat) {vs : List Value} (hv : ∀ j u, vs[j]? = some u → (en x)[d + j]? = some u) : ∀ j u, vs[j]? = some u → Rd S b (o + i * m + d + j) u := fun j u hj => by
  have := h.rd b o rfl i x (d + j) u hx (hv j u hj)
  rwa [← Nat.add_assoc] at this

end Go.Proofs.Ytjpbpfihacfndaa
