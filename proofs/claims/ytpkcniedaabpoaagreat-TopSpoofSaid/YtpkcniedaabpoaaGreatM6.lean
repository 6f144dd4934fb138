/- Rules of a separation logic over the model, and what functions of the translation do; used by the texts that import this one. -/
import Derived.Test.YtpkcniedaabpoaaGreatM5
set_option linter.unusedVariables false
set_option linter.unusedSimpArgs false
namespace Go.Proofs.YtpkcniedaabpoaaGreat
open Go.SLA Go.Proofs.Tryz
set_option maxRecDepth 100000
set_option synthInstance.maxSize 200000
set_option maxHeartbeats 2000000
attribute [local irreducible] FSpec J K L OpV OpX QL Rd Rg bd
section
variable {n : Nat} {p : Pk}
theorem IA (n : Int) (h : 0 <= n /\ n <= 9000000000000000000) : (Lit.int .i64 n).wf = true := by
 have : -9223372036854775808 <= n /\ n <= 9223372036854775807 := by omega
 simpa [Lit.wf, IntKind.min, IntKind.max, IntKind.signed, IntKind.bits] using this
theorem nh (p : Pk) : iD p = hA p (20 + p.data.size) ++ (be (gn (io p (20 + p.data.size) 0)) 2 ++ (hB p ++ p.data)) := by
 unfold iD io
 simp only [ByteArray.append_assoc]
theorem zA (p : Pk) : io p (20 + p.data.size) (gn (io p (20 + p.data.size) 0)) ++ p.data = iD p := by unfold iD; rfl
theorem pi {l : List Int} {j : Nat} {v : Int} (h : l[j]? = some v) (hv : 0 <= v /\ v < 256) : bn (aY l) j = v.toNat := by
 show ((l.map fun v => UInt8.ofNat v.toNat).toArray.toList.getD j 0).toNat = _
 rw [List.toList_toArray, List.getD_eq_getElem?_getD, List.getElem?_map, h]
 show (UInt8.ofNat v.toNat).toNat = _
 rw [UInt8.toNat_ofNat', Nat.mod_eq_of_lt (by omega)]
theorem xA (p : Pk) (n : Nat) : hA p n = aY [((69 / 256 ^ 0 % 256 : Nat) : Int), ((0 / 256 ^ 0 % 256 : Nat) : Int), ((n / 256 ^ 1 % 256 : Nat) : Int), ((n / 256 ^ 0 % 256 : Nat) : Int), ((p.id.toNat / 256 ^ 1 % 256 : Nat) : Int), ((p.id.toNat / 256 ^ 0 % 256 : Nat) : Int), ((dT p / 256 ^ 1 % 256 : Nat) : Int), ((dT p / 256 ^ 0 % 256 : Nat) : Int), ((p.ttl.toNat / 256 ^ 0 % 256 : Nat) : Int), ((p.proto.toNat / 256 ^ 0 % 256 : Nat) : Int)] := rfl
theorem xz (p : Pk) : hB p = aY [p.s0, p.s1, p.s2, p.s3, p.d0, p.d1, p.d2, p.d3] := rfl
theorem Fh : (⟨#[0, 0]⟩ : ByteArray) = be 0 2 := rfl
theorem rg (h : n < 256) : (Lit.int .u8 (n : Int)).wf = true := by
 have : 0 <= (n : Int) /\ (n : Int) <= 255 := by omega
 simpa [Lit.wf, IntKind.min, IntKind.max, IntKind.signed, IntKind.bits] using this
theorem FJ (p : Pk) (n : Nat) : bn (hA p n) 0 = 69 /\ bn (hA p n) 1 = 0 /\ bn (hA p n) 2 = n / 256 % 256 /\ bn (hA p n) 3 = n % 256 /\ bn (hA p n) 4 = p.id.toNat / 256 % 256 /\ bn (hA p n) 5 = p.id.toNat % 256 /\ bn (hA p n) 6 = dT p / 256 % 256 /\ bn (hA p n) 7 = dT p % 256 /\ bn (hA p n) 8 = p.ttl.toNat % 256 /\ bn (hA p n) 9 = p.proto.toNat % 256 := by
 have key : ∀ (i m c : Nat), [((69 / 256 ^ 0 % 256 : Nat) : Int), ((0 / 256 ^ 0 % 256 : Nat) : Int), ((n / 256 ^ 1 % 256 : Nat) : Int), ((n / 256 ^ 0 % 256 : Nat) : Int), ((p.id.toNat / 256 ^ 1 % 256 : Nat) : Int), ((p.id.toNat / 256 ^ 0 % 256 : Nat) : Int), ((dT p / 256 ^ 1 % 256 : Nat) : Int), ((dT p / 256 ^ 0 % 256 : Nat) : Int), ((p.ttl.toNat / 256 ^ 0 % 256 : Nat) : Int), ((p.proto.toNat / 256 ^ 0 % 256 : Nat) : Int)][i]? = some ((m / 256 ^ c % 256 : Nat) : Int) -> bn (hA p n) i = m / 256 ^ c % 256 := fun i m c h => by
  rw [xA, pi h (by have := Nat.mod_lt (m / 256 ^ c) (show 0 < 256 by decide); omega), Int.toNat_natCast]
 have k1 := fun m => show m / 256 ^ 0 % 256 = m % 256 by rw [Nat.pow_zero, Nat.div_one]
 have k2 := fun m => show m / 256 ^ 1 % 256 = m / 256 % 256 by rw [Nat.pow_one]
 refine ⟨(key 0 69 0 rfl).trans (k1 _), (key 1 0 0 rfl).trans (k1 _), (key 2 _ 1 rfl).trans (k2 _), (key 3 _ 0 rfl).trans (k1 _), (key 4 _ 1 rfl).trans (k2 _), (key 5 _ 0 rfl).trans (k1 _), (key 6 _ 1 rfl).trans (k2 _), (key 7 _ 0 rfl).trans (k1 _), (key 8 _ 0 rfl).trans (k1 _), (key 9 _ 0 rfl).trans (k1 _)⟩
theorem FI (hp : okPk p) : ((bn (hB p) 0 : Nat) : Int) = p.s0 /\ ((bn (hB p) 1 : Nat) : Int) = p.s1 /\ ((bn (hB p) 2 : Nat) : Int) = p.s2 /\ ((bn (hB p) 3 : Nat) : Int) = p.s3 /\ ((bn (hB p) 4 : Nat) : Int) = p.d0 /\ ((bn (hB p) 5 : Nat) : Int) = p.d1 /\ ((bn (hB p) 6 : Nat) : Int) = p.d2 /\ ((bn (hB p) 7 : Nat) : Int) = p.d3 := by
 have key : ∀ (i : Nat) (v : Int), [p.s0, p.s1, p.s2, p.s3, p.d0, p.d1, p.d2, p.d3][i]? = some v -> 0 <= v /\ v < 256 -> ((bn (hB p) i : Nat) : Int) = v := fun i v h hv => by rw [xz, pi h hv]; omega
 have hsrc := hp.src
 have hdst := hp.dst
 refine ⟨key 0 _ rfl (hsrc _ ?_), key 1 _ rfl (hsrc _ ?_), key 2 _ rfl (hsrc _ ?_), key 3 _ rfl (hsrc _ ?_), key 4 _ rfl (hdst _ ?_), key 5 _ rfl (hdst _ ?_), key 6 _ rfl (hdst _ ?_), key 7 _ rfl (hdst _ ?_)⟩ <;> first | (unfold Pk.src; simp) | (unfold Pk.dst; simp)
theorem pG {s : ByteArray} {i : Nat} (h : n < 65536) (h0 : bn s i = n / 256 % 256) (h1 : bn s (i + 1) = n % 256) : bE s i = n := by
 have := wA s i
 omega
section
attribute [local irreducible] be gn bE dw iD hA hB aY bn
theorem xJ (hp : okPk p) (h : fi p) (hd : p.data.size <= 65515) (rest : ByteArray) : hZ (iD p ++ rest) = (p, 0) := by
 have hz := lA p
 have hsz : (iD p ++ rest).size = 20 + p.data.size + rest.size := by rw [ByteArray.size_append, hz]
 have hza := lP p (20 + p.data.size)
 have hzb := lO p
 have hsrc := hp.src
 have hdst := hp.dst
 unfold fi at h
 have hpart : dT p <= 16383 /\ dT p % 8192 = p.off.toNat /\ (dT p / 8192 % 2 = 1 ↔ p.more = true) := by
  unfold dT
  cases hm : p.more with
  | true => rw [if_pos rfl]; refine ⟨by omega, by omega, fun _ => rfl, fun _ => by omega⟩
  | false => rw [if_neg (by decide)]; refine ⟨by omega, by omega, fun n => by omega, fun n => by cases n⟩
 have bA : ∀ i, i < 10 -> bn (iD p ++ rest) i = bn (hA p (20 + p.data.size)) i := fun i hi => by rw [fc (by omega), nh, fc (by omega)]
 have hA' := FJ p (20 + p.data.size)
 have bB : ∀ i, i < 8 -> bn (iD p ++ rest) (12 + i) = bn (hB p) i := fun i hi => by
  rw [fc (by omega), nh, gK (by omega), hza, gK (by rw [bu]; omega), bu, fc (by omega), show 12 + i - 10 - 2 = i by omega]
 have hB' := FI hp
 have w10 : bE (iD p ++ rest) 10 = gn (io p (20 + p.data.size) 0) := by
  rw [dj (by omega), nh, i1 (by omega), hza, dj (by rw [bu]; decide)]
  exact j7 (qc _)
 have eA : (iD p ++ rest).extract 0 10 = hA p (20 + p.data.size) := by
  rw [nh, ByteArray.append_assoc]
  exact ByteArray.extract_append_eq_left (by rw [hza])
 have eB : (iD p ++ rest).extract 12 20 = hB p := by
  refine xS (by rw [bH _ _ _ (by omega), hzb]) fun i hi => ?_
  rw [bH _ _ _ (by omega)] at hi
  rw [cI (by omega) (by omega), bB i (by omega)]
 have hzr : dw (iD p ++ rest) = io p (20 + p.data.size) 0 := by
  unfold dw io
  rw [eA, eB, Fh]
 have eD : (iD p ++ rest).extract 20 (20 + p.data.size) = p.data := by
  refine xS (by rw [bH _ _ _ (by omega)]; omega) fun i hi => ?_
  rw [bH _ _ _ (by omega)] at hi
  rw [cI (by omega) (by omega), fc (by omega), <- zA, gK (by rw [jR]; omega), jR, show 20 + i - 20 = i by omega]
 obtain ⟨a0, a1, a2, a3, a4, a5, a6, a7, a8, a9⟩ := hA'
 obtain ⟨c0, c1, c2, c3, c4, c5, c6, c7⟩ := hB'
 rw [<- bA _ (by decide)] at a0 a1 a2 a3 a4 a5 a6 a7 a8 a9
 rw [<- bB _ (by decide)] at c0 c1 c2 c3 c4 c5 c6 c7
 clear bA bB eA eB hza hzb hz
 have hw2 : bE (iD p ++ rest) 2 = 20 + p.data.size := pG (by omega) a2 a3
 have hw4 : bE (iD p ++ rest) 4 = p.id.toNat := pG (by omega) a4 a5
 have hw6 : bE (iD p ++ rest) 6 = dT p := pG (by omega) a6 a7
 clear a2 a3 a4 a5 a6 a7
 have hparse : pV (iD p ++ rest) = p := by
  have e4 : ((p.id.toNat : Nat) : Int) = p.id := Int.toNat_of_nonneg (by omega)
  have e8 : ((p.ttl.toNat % 256 : Nat) : Int) = p.ttl := by clear a0 a1 a8 a9 c0 c1 c2 c3 c4 c5 c6 c7 hw2 hw4 hw6 w10 hzr eD; omega
  have e9 : ((p.proto.toNat % 256 : Nat) : Int) = p.proto := by clear a0 a1 a8 a9 c0 c1 c2 c3 c4 c5 c6 c7 hw2 hw4 hw6 w10 hzr eD; omega
  have em : decide (dT p / 8192 % 2 = 1) = p.more := by
   cases hm : p.more with
   | true => exact decide_eq_true (hpart.2.2.2 hm)
   | false => exact decide_eq_false fun n => by rw [hpart.2.2.1 n] at hm; cases hm
  have eo : ((dT p % 8192 : Nat) : Int) = p.off := by rw [hpart.2.1]; exact Int.toNat_of_nonneg (by omega)
  unfold pV
  rw [hw2, hw4, hw6, eD, a8, a9, e4, e8, e9, em, eo, c0, c1, c2, c3, c4, c5, c6, c7]
 unfold hZ
 rw [if_neg (by omega), if_neg (by omega), if_neg (by omega), if_neg (by rw [w10, hzr]; exact fun n => n rfl), if_neg (by omega), hparse]
end
attribute [local irreducible] hZ
theorem D4 (p : Pk) (rest : ByteArray) (hp : okPk p) (h : fi p) (hd : p.data.size <= 65515) (hr : rest.size <= 10000) : FSpec prog 14 #[.string (iD p ++ rest)] emp (fun _ : Unit => True) (fun _ => .tuple #[.agg [I p.id, .bool p.more, I p.off, I p.ttl, I p.proto, U8 p.s0, U8 p.s1, U8 p.s2, U8 p.s3, U8 p.d0, U8 p.d1, U8 p.d2, U8 p.d3, .string p.data].toArray, I 0]) (fun _ => emp) := by
 have := oz (iD p ++ rest) (by rw [ByteArray.size_append, lA]; omega)
 rw [xJ hp h hd rest] at this
 exact this
set_option maxRecDepth 100000
set_option maxRecDepth 100000
end
section
variable {α : Type} {j : Nat} {x : α}
structure Ky where
 s0 : Int
 s1 : Int
 s2 : Int
 s3 : Int
 d0 : Int
 d1 : Int
 d2 : Int
 d3 : Int
 proto : Int
 id : Int
def bS (x : Ky) : List Value := [U8 x.s0, U8 x.s1, U8 x.s2, U8 x.s3, U8 x.d0, U8 x.d1, U8 x.d2, U8 x.d3, I x.proto, I x.id]
abbrev fv : List CK := [.int .u8, .int .u8, .int .u8, .int .u8, .int .u8, .int .u8, .int .u8, .int .u8, .int .i64, .int .i64]
theorem hF (x : Ky) : (bS x).length = 10 := rfl
instance : MapP prog 93 122 := ⟨by kernel_rfl⟩
instance : DecidableEq Ky := fun a b =>
 if h : a.s0 = b.s0 /\ a.s1 = b.s1 /\ a.s2 = b.s2 /\ a.s3 = b.s3 /\ a.d0 = b.d0 /\ a.d1 = b.d1 /\ a.d2 = b.d2 /\ a.d3 = b.d3 /\ a.proto = b.proto /\ a.id = b.id then isTrue (by cases a; cases b; simp_all) else isFalse (by rintro rfl; simp at h)
theorem encKy_inj {a b : Ky} : bS a = bS b ↔ a = b := by
 constructor
 ·intro h
  cases a; cases b
  simp only [bS, List.cons.injEq, Value.int.injEq, true_and, and_true] at h
  simp [h]
 ·rintro rfl; rfl
theorem vw (x : Ky) : ∀ u ∈ bS x, u.oneCell' = true := by
 intro u hu
 simp only [bS, List.mem_cons, List.not_mem_nil, or_false] at hu
 rcases hu with rfl | rfl | rfl | rfl | rfl | rfl | rfl | rfl | rfl | rfl <;> rfl
theorem rk (x : Ky) : Shape fv (bS x) := by simp [fv, bS, Shape, CK.sh]
def ay (p : Pk) : Ky := ⟨p.s0, p.s1, p.s2, p.s3, p.d0, p.d1, p.d2, p.d3, p.proto, p.id⟩
abbrev aP (L : List Ky) : List Value := L.flatMap bS
theorem iO (L : List Ky) : (aP L).length = L.length * 10 := jS hF L
def wo (L : List Ky) (k : Ky) : List Ky := L.filter fun x => !decide (x = k)
theorem pI (L M : List Ky) (k : Ky) : wo (L ++ M) k = wo L k ++ wo M k := List.filter_append ..
theorem uT {x k : Ky} (h : ¬ x = k) : wo [x] k = [x] := by unfold wo; simp [h]
theorem mi {x k : Ky} (h : x = k) : wo [x] k = [] := by unfold wo; simp [h]
theorem pH {L : List Ky} {k : Ky} (h : ∀ x ∈ L, x ≠ k) : wo L k = L := by
 unfold wo
 rw [List.filter_eq_self]
 intro x hx
 simp [h x hx]
def nW (L : List Ky) (k : Ky) : Nat := L.findIdx fun x => decide (x = k)
theorem Fx {L : List α} (h : L[j]? = some x) : j < L.length := by
 rcases Nat.lt_or_ge j L.length with h' | h'
 ·exact h'
 ·rw [List.getElem?_eq_none h'] at h; cases h
theorem nV {L : List Ky} {k x : Ky} (hj : j <= nW L k) (hx : L[j]? = some x) (h : x = k) : nW L k = j := by
 have hl := Fx hx
 rw [List.getElem?_eq_getElem hl] at hx
 simp only [Option.some.injEq] at hx
 rcases Nat.lt_or_ge j (nW L k) with h' | h'
 ·have := List.not_of_lt_findIdx h'
  rw [hx] at this
  simp [h] at this
 ·omega
theorem xE {L : List Ky} {k x : Ky} (hj : j <= nW L k) (hx : L[j]? = some x) (h : ¬ x = k) : j + 1 <= nW L k := by
 have hl := Fx hx
 rw [List.getElem?_eq_getElem hl] at hx
 simp only [Option.some.injEq] at hx
 rcases Nat.lt_or_ge j (nW L k) with h' | h'
 ·omega
 ·have e : nW L k = j := by omega
  have hlt : L.findIdx (fun x => decide (x = k)) < L.length := by show nW L k < _; omega
  have := List.findIdx_getElem (w := hlt)
  have e2 : L[L.findIdx (fun x => decide (x = k))] = x := by rw [<- hx]; congr 1
  rw [e2] at this
  simp at this
  exact absurd this h
theorem CL (L : List Ky) (k : Ky) : nW L k <= L.length := List.findIdx_le_length
theorem xF {L : List Ky} {k : Ky} (h : nW L k < L.length) : L[nW L k]? = some k /\ wo (L.take (nW L k)) k = L.take (nW L k) := by
 have hlt : L.findIdx (fun x => decide (x = k)) < L.length := h
 have := List.findIdx_getElem (w := hlt)
 simp only [decide_eq_true_eq] at this
 refine ⟨?_, pH fun x hx hxk => ?_⟩
 ·rw [List.getElem?_eq_getElem h]; exact congrArg some this
 ·obtain ⟨j, hj⟩ := List.getElem?_of_mem hx
  have hjl := Fx hj
  rw [List.length_take] at hjl
  have hj2 : j < nW L k := by omega
  rw [List.getElem?_take_of_lt hj2] at hj
  have := nV (by omega) hj hxk
  omega
theorem CJ {L : List Ky} {k : Ky} (h : ¬ nW L k < L.length) : wo L k = L := pH fun x hx hxk => by
 obtain ⟨j, hj⟩ := List.getElem?_of_mem hx
 have hjl := Fx hj
 have := nV (by omega) hj hxk
 omega
theorem pK {q : List α} {k : Nat} (hx : q[k]? = some x) : q.take (k + 1) = q.take k ++ [x] := by
 have hk := Fx hx
 rw [List.getElem?_eq_getElem hk] at hx
 simp only [Option.some.injEq] at hx
 rw [List.take_succ_eq_append_getElem hk, hx]
theorem vt {M : List Ky} {i : Nat} {x : Ky} (pre post : List Value) (hi : i < M.length) : pre ++ aP (M.set i x) ++ post = (pre ++ aP M ++ post).take (pre.length + i * 10) ++ bS x ++ (pre ++ aP M ++ post).drop (pre.length + i * 10 + (bS x).length) := by
 have h1 : M = M.take i ++ ([M[i]] ++ M.drop (i + 1)) := by rw [List.singleton_append, <- List.drop_eq_getElem_cons hi, List.take_append_drop]
 have h2 : M.set i x = M.take i ++ ([x] ++ M.drop (i + 1)) := by rw [List.set_eq_take_append_cons_drop, if_pos hi]; rfl
 have l1 : (aP (M.take i)).length = i * 10 := by rw [iO, List.length_take]; congr 1; omega
 have e1 : aP M = aP (M.take i) ++ (bS M[i] ++ aP (M.drop (i + 1))) := by
  refine (congrArg aP h1).trans ?_
  unfold aP
  rw [List.flatMap_append, List.flatMap_append]
  simp only [List.flatMap_cons, List.flatMap_nil, List.append_nil]
 have e2 : aP (M.set i x) = aP (M.take i) ++ (bS x ++ aP (M.drop (i + 1))) := by rw [h2]; simp [aP]
 have a1 : (pre ++ aP M ++ post).take (pre.length + i * 10) = pre ++ aP (M.take i) := by
  rw [e1, show pre ++ (aP (M.take i) ++ (bS M[i] ++ aP (M.drop (i + 1)))) ++ post = (pre ++ aP (M.take i)) ++ ((bS M[i] ++ aP (M.drop (i + 1))) ++ post) by simp]
  exact List.take_left' (by rw [List.length_append, l1])
 have a2 : (pre ++ aP M ++ post).drop (pre.length + i * 10 + (bS x).length) = aP (M.drop (i + 1)) ++ post := by
  rw [e1, show pre ++ (aP (M.take i) ++ (bS M[i] ++ aP (M.drop (i + 1)))) ++ post = (pre ++ aP (M.take i) ++ bS M[i]) ++ (aP (M.drop (i + 1)) ++ post) by simp]
  exact List.drop_left' (by simp only [List.length_append, l1]; rfl)
 rw [a1, a2, e2]
 simp
theorem xr (p : Pk) : FSpec prog 51 #[.agg (qq2 p).toArray] (emp) (fun _ : Unit => True) (fun _ => .agg (bS (ay p)).toArray) (fun _ => emp) := by
 refine en func51 r fun _ F=>bG<|sr<|lx r (aV (l := (qq2 p)) r r) fun b1 _=>al r fun b2=>nr<|fz r<|ls r<|fz r<|ls r<|fz r<|ld r r<|fz r<|ld r r<|lv (af r) r<|so r r<|nk<|jr ?_
 exact uR (Q := fun _ _ _ => True) rfl rfl rfl () trivial rfl Ent.take
def gV (p : Pk) (a : Nat) : Int := if a % 8 ≠ 0 \/ p.off ≠ ((a / 8 : Nat) : Int) then 25 else if p.more = true /\ (p.data.size = 0 \/ p.data.size % 8 ≠ 0) then 15 else if 8200 < a + p.data.size then 11 else 0
theorem CS {s : ByteArray} : s = ⟨#[]⟩ ↔ s.size = 0 := ⟨fun h => by rw [h]; rfl, fun h => iG h⟩
theorem kJ (p : Pk) (a : Nat) (ha : a <= 1000000) (hd : p.data.size <= 140737488355327) : FSpec prog 52 #[.agg (qq2 p).toArray, I a] (emp) (fun _ : Unit => True) (fun _ => I (gV p a)) (fun _ => emp) := by
 refine en func52 r fun _ F=>bG<|sr<|lx r (aV (l := (qq2 p)) r r) fun b2 _=>an r<|js<|jb<|sa r<|lv ((fu r r (by omega)).as (v' := I ((a % 8 : Nat) : Int)) r) r<|lv (bs r r) r<|ea r ?_
 refine il rfl rfl (fun h1 => ?_) (fun h1 => ?_) (fun _ h => by cases h; rfl)
 ·refine fz r<|bR h1 r r<|ld r r<|bR h1 r r<|ea r<|bR h1 r r<|lv ((nP r r (by omega)).as (v' := I ((a / 8 : Nat) : Int)) r) r<|bR h1 r r<|lv (bs r r) r<|lv (bo r h1 r) r<|an r ?_
  refine aG rfl (fun h2 => ?_) (fun h2 => ?_)
  ·refine aE r<|jr<|kq<|kd ?_
   exact aD rfl rfl () trivial (congrArg (Value.int .i64) (by unfold gV; rw [if_pos (by omega)])) Ent.take
  ·refine sr<|fz r<|lv ((ar r (aC r)).as (v' := .bool (decide (p.more = true))) (by simp)) r<|ea r ?_
   refine sO rfl rfl (fun h3 => ?_) (fun h3 => ?_) (fun _ h => by cases h; rfl)
   ·refine fz r<|cT h3 r r<|ld r r<|cT h3 r r<|lv ((rL r r).as (v' := .bool (decide (p.data.size = 0))) (congrArg Value.bool (decide_eq_decide.2 CS))) r<|cT h3 r r<|ea r ?_
    refine il rfl rfl (fun h4 => ?_) (fun h4 => ?_) (fun _ h => by cases h; rfl)
    ·refine fz r<|bR h4 r r<|ld r r<|bR h4 r r<|lv (aX r) r<|bR h4 r r<|lv ((fu r r (by omega)).as (v' := I ((p.data.size % 8 : Nat) : Int)) r) r<|bR h4 r r<|lv (bs r r) r<|cT h3 r r<|lv (bo r h4 r) r<|lv (bi r h3 r) r<|an r ?_
     refine aG rfl (fun h5 => ?_) (fun h5 => ?_)
     ·refine aE r<|jr<|kq<|kd ?_
      exact aD rfl rfl () trivial (congrArg (Value.int .i64) (by unfold gV; rw [if_neg (by omega), if_pos ⟨by assumption, by omega⟩])) Ent.take
     ·refine sa r<|fz r<|ld r r<|lv (aX r) r<|gE r<|lv (bt r r) r<|an r ?_
      refine aG rfl (fun h6 => ?_) (fun h6 => ?_)
      ·refine aE r<|jr<|kq<|kd ?_
       exact aD rfl rfl () trivial (congrArg (Value.int .i64) (by unfold gV; first | rw [if_pos (by omega)] | rw [if_neg (by omega), if_pos ⟨by assumption, by omega⟩] | rw [if_neg (by omega), if_neg (by rintro ⟨g1, g2⟩; omega), if_pos (by omega)] | rw [if_neg (by omega), if_neg (by rintro ⟨g1, g2⟩; first | contradiction | omega), if_neg (by omega)])) Ent.take
      ·refine cY<|aE r<|jr ?_
       exact aD rfl rfl () trivial (congrArg (Value.int .i64) (by unfold gV; first | rw [if_pos (by omega)] | rw [if_neg (by omega), if_pos ⟨by assumption, by omega⟩] | rw [if_neg (by omega), if_neg (by rintro ⟨g1, g2⟩; omega), if_pos (by omega)] | rw [if_neg (by omega), if_neg (by rintro ⟨g1, g2⟩; omega), if_neg (by omega)])) Ent.take
    ·refine jf h4 rfl ?_
     refine jf h4 rfl<|jf h4 rfl<|jf h4 rfl<|cT h3 r r<|lv (bi r h4 r) r<|lv (bi r h3 r) r<|an r<|ct r<|aE r<|jr<|kq<|kd ?_
     exact aD rfl rfl () trivial (congrArg (Value.int .i64) (by unfold gV; rw [if_neg (by omega), if_pos ⟨by assumption, by omega⟩])) Ent.take
   ·refine cJ h3 rfl rfl ?_ (fun _ h => by cases h; rfl)
    refine cJ h3 rfl rfl ?_ (fun _ h => by cases h; rfl)
    refine mb r r (by simp [h3]) r<|cA r r r<|cA r r r<|cA r r r<|cA r r r<|cA r r r ?_
    refine cJ h3 rfl rfl ?_ (fun _ h => by cases h; rfl)
    refine lv (bo r h3 r) r<|an r<|cf r<|sa r<|fz r<|ld r r<|lv (aX r) r<|gE r<|lv (bt r r) r<|an r ?_
    refine aG rfl (fun h7 => ?_) (fun h7 => ?_)
    ·refine aE r<|jr<|kq<|kd ?_
     exact aD rfl rfl () trivial (congrArg (Value.int .i64) (by unfold gV; first | rw [if_pos (by omega)] | rw [if_neg (by omega), if_pos ⟨by assumption, by omega⟩] | rw [if_neg (by omega), if_neg (by rintro ⟨g1, g2⟩; contradiction), if_pos (by omega)] | rw [if_neg (by omega), if_neg (by rintro ⟨g1, g2⟩; first | contradiction | omega), if_neg (by omega)])) Ent.take
    ·refine cY<|aE r<|jr ?_
     exact aD rfl rfl () trivial (congrArg (Value.int .i64) (by unfold gV; first | rw [if_pos (by omega)] | rw [if_neg (by omega), if_pos ⟨by assumption, by omega⟩] | rw [if_neg (by omega), if_neg (by rintro ⟨g1, g2⟩; contradiction), if_pos (by omega)] | rw [if_neg (by omega), if_neg (by rintro ⟨g1, g2⟩; contradiction), if_neg (by omega)])) Ent.take
 ·refine jf h1 rfl ?_
  refine jf h1 rfl<|jf h1 rfl<|jf h1 rfl<|lv (bi r h1 r) r<|an r<|ct r<|aE r<|jr<|kq<|kd ?_
  exact aD rfl rfl () trivial (congrArg (Value.int .i64) (by unfold gV; rw [if_pos (by omega)])) Ent.take
abbrev _root_.Go.qq54 (a : Ky) : List Value := [U8 a.s0, U8 a.s1, U8 a.s2, U8 a.s3, U8 a.d0, U8 a.d1, U8 a.d2, U8 a.d3, I a.proto, I a.id]
theorem uB (x k : Ky) (b3 : Nat) : FSpec prog 79 #[.agg (qq54 x).toArray, Pt b3 0] (am b3 (bS k) 122) (fun _ : Unit => True) (fun _ => .bool (decide (x = k))) (fun _ => am b3 (bS k) 122) := by
 refine en func79 rfl fun _ F=>sr<|lx rfl (aV (l := (qq54 x)) rfl rfl) fun b2 _=>an rfl<|sr<|ls rfl<|lv (br (vs := bS k) rfl rfl (fun j u hj => aC (l := bS k) (by rw [Nat.zero_add]; exact hj))) rfl<|lv ((gI (l := bS x) (r := bS k) rfl rfl (rk x) (rk k)).as (v' := .bool (decide (x = k))) (congrArg Value.bool (decide_eq_decide.2 encKy_inj))) rfl<|an rfl<|jr ?_
 exact aD rfl rfl () trivial (rfl) Ent.take
theorem kD (A : Option Addr) (b3 c : Nat) (L : List Ky) (k : Ky) (hq : L.length <= 1000000000) : FSpec prog 115 #[.slice A L.length c, .func (.func 79) #[] #[Pt b3 0]] ((aa (Ow 122 10 (.slice A L.length c) L.length (aP L)) (am b3 (bS k) 122))) (fun _ : Unit => True) (fun _ => I (if nW L k < L.length then ((nW L k : Nat) : Int) else -1)) (fun _ => (aa (Ow 122 10 (.slice A L.length c) L.length (aP L)) (am b3 (bS k) 122))) := by
 refine en func115 r fun _ F=>dY _ (ak _ _ _)<|yP (fun w hs => i4 hs) fun hA =>aE r<|js<|sa r<|ll r<|an r<|jb ?_
 refine bX (X := Nat) (fun i => [(0, .slice A L.length c), (1, .func (.func 79) #[] #[Pt b3 0]), (7, I L.length), (8, I i)]) (fun i => (aa (Ow 122 10 (.slice A L.length c) L.length (aP L)) (aa (am b3 (bS k) 122) (F)))) (fun i => i <= nW L k) (fun i => L.length - i) (0) (Nat.zero_le _) ⟨rfl, rfl, rfl, rfl, trivial⟩ (ah _) (fun i hi => ?_)
 refine sr<|lv (aM r r) r<|nj ?_
 refine aG rfl (fun h1 => ?_) (fun h1 => ?_)
 ·have hil : i < L.length := by omega
  obtain ⟨x, hx⟩ : ∃ x, L[i]? = some x := ⟨_, List.getElem?_eq_getElem hil⟩
  obtain ⟨b, o, rfl⟩ : ∃ b o, A = some (ad b o) := by rcases hA with ⟨_, _, h, _⟩ | h; omega; exact h
  refine sk<|js<|jb<|sb r<|nr<|ec r<|lv (au r r (by omega)) r<|lv (br (vs := [U8 x.s0, U8 x.s1, U8 x.s2, U8 x.s3, U8 x.d0, U8 x.d1, U8 x.d2, U8 x.d3, I x.proto, I x.id]) r r (fun j u hj => bU (S := Ow 122 10 (Sk b o L.length c) L.length (aP L)) ((RdS.own (m := 10) (e := 122) (c := c) hF (.inr ⟨b, o, r⟩)).rd b o r i x j u hx hj))) r<|lx r (fq (first := []) (captured := [Pt b3 0]) (uB x k b3) r r r r) fun _ _=>nk ?_
  refine gP rfl (fun h2 => ?_) (fun h2 => ?_)
  ·refine sb r<|nk<|jr<|kq<|kd<|kd<|kq<|kd ?_
   have e := nV hi hx (of_decide_eq_true h2)
   exact aD rfl rfl () trivial (congrArg (Value.int .i64) (by rw [if_pos (by omega), e])) Ent.take
  ·refine cY<|jg<|gE r<|ea r<|ln ?_
   exact bO (i + 1) (xE hi hx (of_decide_eq_false h2)) (by omega) ⟨rfl, rfl, rfl, rfl, trivial⟩ dH
 ·refine cx ?_
  refine ke<|ke<|kh<|kt<|aE r<|jr ?_
  have hle := CL L k
  exact aD rfl rfl () trivial (congrArg (Value.int .i64) (by rw [if_neg (by omega)])) Ent.take
end
section
variable {M L : List Ky} {i j : Nat} {x : Ky}
theorem wK (hi : i < M.length) : (M.set i x).take (i + 1) = M.take i ++ [x] := by
 rw [List.set_eq_take_append_cons_drop, if_pos hi, List.append_cons]
 exact List.take_left' (by rw [List.length_append, List.length_take]; simp; omega)
theorem wM (h : i < j) : (M.set i x).drop j = M.drop j := List.ext_getElem? fun n => by rw [List.getElem?_drop, List.getElem?_drop, List.getElem?_set_ne (by omega)]
theorem xI (h : M.drop j = L.drop j) : M[j]? = L[j]? := by
 have := congrArg (fun l : List Ky => l[0]?) h
 simpa [List.getElem?_drop] using this
theorem ph (h : M.drop j = L.drop j) : M.drop (j + 1) = L.drop (j + 1) := by
 rw [<- List.drop_drop, <- List.drop_drop, h]
theorem Af {b c n : Nat} {pre post l' : List Value} {W : List Ky} (h1 : l'.take (pre.length + i * 10) = (pre ++ aP M ++ post).take (pre.length + i * 10)) (h2 : l'.length = (pre ++ aP M ++ post).length) (hM : M.length = n) (hi : i <= n) (hW : M.take i = W) (hc : n <= c) (hc2 : c <= maxLen) (hp : (c - n) * 10 <= post.length) : Ent (am b l' 122) (Ow 122 10 (Sk b pre.length W.length c) W.length (aP W)) := by
 have hWl : W.length = i := by rw [<- hW, List.length_take]; omega
 have hm := iO M
 have e1 : (pre ++ aP M ++ post).take (pre.length + i * 10) = pre ++ aP W := by
  have : aP M = aP W ++ aP (M.drop i) := by
   unfold aP
   rw [<- hW, <- List.flatMap_append, List.take_append_drop]
  rw [this, show pre ++ (aP W ++ aP (M.drop i)) ++ post = (pre ++ aP W) ++ (aP (M.drop i) ++ post) by simp]
  exact List.take_left' (by rw [List.length_append, iO, hWl])
 have e2 : l' = pre ++ aP W ++ l'.drop (pre.length + i * 10) := by rw [<- e1, <- h1, List.take_append_drop]
 rw [e2]
 refine Ow.mk rfl (by omega) hc2 (by rw [iO]) ?_
 simp only [List.length_append] at h2
 rw [List.length_drop, h2, hm, hM, hWl]
 omega
theorem D3 (A : Option Addr) (b3 c : Nat) (L : List Ky) (k : Ky) (hq : L.length <= 1000000000) (h : ¬ nW L k < L.length) : FSpec prog 78 #[.slice A L.length c, .func (.func 79) #[] #[Pt b3 0]] ((aa (Ow 122 10 (.slice A L.length c) L.length (aP L)) (am b3 (bS k) 122))) (fun _ : Unit => True) (fun _ => .slice A L.length c) (fun _ => (aa (Ow 122 10 (.slice A L.length c) L.length (aP L)) (am b3 (bS k) 122))) := by
 refine en func78 r fun _ F=>aE r<|sb r<|cy (kD A b3 c L k hq) r fun _=>?_
 rw [if_neg h]
 refine an r<|js<|sa r<|lv ((cv r r).bool_t r) r<|nt r<|sb r<|nk<|jr<|kd ?_
 exact aD rfl rfl () trivial (rfl) Ent.take
theorem Bc (A : Option Addr) (b3 c : Nat) (L : List Ky) (k : Ky) (hq : L.length <= 1000000000) (h : nW L k < L.length) : FSpec prog 78 #[.slice A L.length c, .func (.func 79) #[] #[Pt b3 0]] ((aa (Ow 122 10 (.slice A L.length c) L.length (aP L)) (am b3 (bS k) 122))) (fun r : Option Addr × Nat => True) (fun r => .slice r.1 (wo L k).length r.2) (fun r => (aa (Ow 122 10 (.slice r.1 (wo L k).length r.2) (wo L k).length (aP (wo L k))) (am b3 (bS k) 122))) := by
 refine en func78 rfl fun _ F=>aE rfl<|sb rfl<|cy (kD A b3 c L k hq) rfl fun _=>?_
 rw [if_pos h]
 refine an rfl<|js<|sa rfl<|bJ rfl<|nf rfl<|sk<|js<|js<|dY _ (ak _ _ _)<|BY (fun e1 e2 e3 => absurd h (by rw [e2]; exact Nat.not_lt_zero _)) fun b cap pre post e1 e2 e3 e4 e5=>?_
 simp only [Value.slice.injEq] at e1
 obtain ⟨rfl, _, rfl⟩ := e1
 refine jg<|ea rfl<|gE rfl<|an rfl<|jb ?_
 refine bX (X := Nat × Nat × List Ky) (fun z => [(0, Sk b pre.length L.length c), (1, .func (.func 79) #[] #[Pt b3 0]), (5, I z.1), (6, I z.2.1)]) (fun z => (aa (am b (pre ++ aP z.2.2 ++ post) 122) (aa (am b3 (bS k) 122) (F)))) (fun z => z.2.2.length = L.length /\ z.1 < z.2.1 /\ z.2.1 <= L.length /\ z.2.2.take z.1 = wo (L.take z.2.1) k /\ z.2.2.drop z.2.1 = L.drop z.2.1) (fun z => L.length - z.2.1) ((nW L k, nW L k + 1, L)) ⟨rfl, Nat.lt_succ_self _, h, by dsimp only; rw [pK (xF h).1, pI, mi rfl, (xF h).2, List.append_nil], rfl⟩ ⟨rfl, rfl, rfl, rfl, trivial⟩ (ah _) (fun z hz => ?_)
 obtain ⟨zM, z1, z2, zt, zd⟩ := hz
 have hiM : z.1 < z.2.2.length := by omega
 have hfl := iO z.2.2
 refine js<|sb rfl<|ll rfl<|lv (aM rfl rfl) rfl<|nk ?_
 refine aG rfl (fun h1 => ?_) (fun h1 => ?_)
 ·have hjl : z.2.1 < L.length := by omega
  obtain ⟨x, hx⟩ : ∃ x, L[z.2.1]? = some x := ⟨_, List.getElem?_eq_getElem hjl⟩
  have hxM : z.2.2[z.2.1]? = some x := (xI zd).trans hx
  refine sk<|js<|jb<|sb rfl<|lv (au rfl rfl (by omega)) rfl<|lv (br (vs := [U8 x.s0, U8 x.s1, U8 x.s2, U8 x.s3, U8 x.d0, U8 x.d1, U8 x.d2, U8 x.d3, I x.proto, I x.id]) rfl rfl (fun j u hj => gg hF (q := z.2.2) hxM hj)) rfl<|al rfl fun b7=>lx rfl (dU rfl rfl rfl) fun _ _=>nr<|ea rfl<|ls rfl<|lx rfl (fq (first := []) (captured := [Pt b3 0]) (uB x k b3) rfl rfl rfl rfl) fun _ _=>lv (lG rfl) rfl<|nk ?_
  refine aG rfl (fun h2 => ?_) (fun h2 => ?_)
  ·refine sb rfl<|ls rfl<|lv (au rfl rfl (by omega)) rfl ?_
   refine lx rfl (iv (m := 10) (vs := bS x) (l' := pre ++ aP (z.2.2.set z.1 x) ++ post) rfl rfl rfl (vw x) (by simp only [List.length_append, Int.toNat_natCast, hF]; omega) (by rw [Int.toNat_natCast]; exact vt pre post hiM)) fun _ _=>nk<|jg<|ea rfl<|gE rfl<|ea rfl<|ln<|kb<|kt<|jg<|ea rfl<|gE rfl<|ea rfl<|ln ?_
   exact bO ((z.1 + 1, z.2.1 + 1, z.2.2.set z.1 x)) ⟨by dsimp only; rw [List.length_set]; exact zM, by dsimp only; omega, by dsimp only; omega, by dsimp only; rw [wK hiM, pK hx, pI, uT h2, zt], by dsimp only; rw [wM (by omega)]; exact ph zd⟩ (by dsimp only; omega) ⟨rfl, rfl, rfl, rfl, trivial⟩ (Ent.take (Q := (aa (am b (pre ++ aP (z.2.2.set z.1 x) ++ post) 122) (aa (am b3 (bS k) 122) (F)))))
  ·refine cY<|jg<|ea rfl<|gE rfl<|ea rfl<|ln ?_
   exact bO ((z.1, z.2.1 + 1, z.2.2)) ⟨zM, by dsimp only; omega, by dsimp only; omega, by dsimp only; rw [pK hx, pI, mi (Classical.not_not.1 h2), zt, List.append_nil], ph zd⟩ (by dsimp only; omega) ⟨rfl, rfl, rfl, rfl, trivial⟩ (Ent.take (Q := (aa (am b (pre ++ aP z.2.2 ++ post) 122) (aa (am b3 (bS k) 122) (F)))))
 ·have hje : z.2.1 = L.length := by omega
  have hW : z.2.2.take z.1 = wo L k := by rw [zt, hje, List.take_length]
  have hz1 : z.1 = (wo L k).length := by rw [<- hW, List.length_take]; omega
  refine cx<|ke<|ke<|kh<|kt<|sb rfl<|lv ((cZ rfl rfl (by omega)).as (v' := Sk b (pre.length + z.1 * 10) (L.length - z.1) (c - z.1)) (by rw [Int.toNat_natCast, iy, if_neg (by omega)])) rfl<|lx rfl (u4 (m := 10) (zs := [U8 0, U8 0, U8 0, U8 0, U8 0, U8 0, U8 0, U8 0, I 0, I 0]) rfl rfl (by simp [Value.oneCell']) (by simp only [List.length_append]; omega)) fun l' hl'=>nr<|eb rfl<|lv ((lF rfl rfl (by omega)).as (v' := Sk b pre.length z.1 c) (by rw [Int.toNat_natCast, iy]; simp)) rfl<|an rfl<|jr ?_
  exact aD rfl rfl (some (ad b pre.length), c) trivial (by rw [hz1]) (Ent.trans (Ent.take (Q := (aa (am b l' 122) (aa (am b3 (bS k) 122) (F))))) (Ent.trans (Ent.frame (Af (n := L.length) (i := z.1) hl'.1 hl'.2 zM (by omega) hW e2 e3 e5) _) (Ent.of (ak _ _ _).symm)))
theorem Bd (A : Option Addr) (b3 c : Nat) (L : List Ky) (k : Ky) (hq : L.length <= 1000000000) : FSpec prog 78 #[.slice A L.length c, .func (.func 79) #[] #[Pt b3 0]] ((aa (Ow 122 10 (.slice A L.length c) L.length (aP L)) (am b3 (bS k) 122))) (fun _ : Option Addr × Nat => True) (fun r => .slice r.1 (wo L k).length r.2) (fun r => (aa (Ow 122 10 (.slice r.1 (wo L k).length r.2) (wo L k).length (aP (wo L k))) (am b3 (bS k) 122))) := by
 by_cases h : nW L k < L.length
 ·exact Bc A b3 c L k hq h
 ·rw [CJ h]
  exact (D3 A b3 c L k hq h).conseq (ah _) fun _ _ => ⟨(A, c), trivial, rfl, ah _⟩
theorem nU (p r : Nat) (c2 c3 c4 c5 : Value) (A : Option Addr) (c : Nat) (L : List Ky) (f : List Value -> Option Value) (k : Ky) (hq : L.length <= 1000000000) : FSpec prog 54 #[Pt p 0, .agg [U8 k.s0, U8 k.s1, U8 k.s2, U8 k.s3, U8 k.d0, U8 k.d1, U8 k.d2, U8 k.d3, I k.proto, I k.id].toArray] ((aa (am p [Mp r, .slice A L.length c, c2, c3, c4, c5] 96) (aa (eK r fv f) (Ow 122 10 (.slice A L.length c) L.length (aP L))))) (fun z : Option Addr × Nat => True) (fun z => .tuple #[]) (fun z => (aa (am p [Mp r, .slice z.1 (wo L k).length z.2, c2, c3, c4, c5] 96) (aa (eK r fv (je f (bS k))) (Ow 122 10 (.slice z.1 (wo L k).length z.2) (wo L k).length (aP (wo L k)))))) := by
 refine en func54 rfl fun _ F=>?_
 refine dY _ (ak _ _ _) ?_
 refine dY _ (congrArg (aa _) (ak _ _ _)) ?_
 refine sr<|lx rfl (aV (l := [U8 k.s0, U8 k.s1, U8 k.s2, U8 k.s3, U8 k.d0, U8 k.d1, U8 k.d2, U8 k.d3, I k.proto, I k.id]) rfl rfl) fun b3 _=>nj<|av ((aa (am b3 [U8 k.s0, U8 k.s1, U8 k.s2, U8 k.s3, U8 k.d0, U8 k.d1, U8 k.d2, U8 k.d3, I k.proto, I k.id] 122) (am p [Mp r, .slice A L.length c, c2, c3, c4, c5] 96))) ((aa (am b3 [U8 k.s0, U8 k.s1, U8 k.s2, U8 k.s3, U8 k.d0, U8 k.d1, U8 k.d2, U8 k.d3, I k.proto, I k.id] 122) (am p [Mp r, .slice A L.length c, c2, c3, c4, c5] 96))) [] ae<|pe 0 rfl rfl<|pe 1 rfl rfl<|ps 2 rfl (aj rfl)<|dv 3 rfl (by kernel_rfl) (ar rfl (aC rfl)) rfl<|dv 4 rfl (by kernel_rfl) (ax rfl) rfl<|pn 5 rfl (rG (k := bS k) (f := f) rfl rfl (rk k)) fun _ _=>dn<|kt ?_
 refine dY (aa (eK r fv (je f (bS k))) (aa (am b3 (bS k) 122) (aa (am p [Mp r, .slice A L.length c, c2, c3, c4, c5] 96) (aa (Ow 122 10 (.slice A L.length c) L.length (aP L)) (F))))) rfl ?_
 refine jg<|ec rfl<|fz rfl<|ld rfl rfl<|lv (aB rfl rfl) rfl<|cy (Bd A b3 c L k hq) rfl fun z=>?_
 refine ue _ (ak _ _ _) ?_
 refine ea rfl<|fz rfl ?_
 refine lx rfl (dU rfl rfl rfl) fun _ _=>ln ?_
 exact eG rfl z trivial rfl (Ent.take (Q := (aa ((aa (am p [Mp r, .slice z.1 (wo L k).length z.2, c2, c3, c4, c5] 96) (aa (eK r fv (je f (bS k))) (Ow 122 10 (.slice z.1 (wo L k).length z.2) (wo L k).length (aP (wo L k)))))) (F))))
theorem si (p r : Nat) (c2 c3 c4 : Value) (A : Option Addr) (c : Nat) (L : List Ky) (f : List Value -> Option Value) (k : Ky) (hq : L.length <= 1000000000) (d : Int) (hd : -1000000000 <= d /\ d <= 1000000000) : FSpec prog 53 #[Pt p 0, .agg [U8 k.s0, U8 k.s1, U8 k.s2, U8 k.s3, U8 k.d0, U8 k.d1, U8 k.d2, U8 k.d3, I k.proto, I k.id].toArray] ((aa (am p [Mp r, .slice A L.length c, c2, c3, c4, I d] 96) (aa (eK r fv f) (Ow 122 10 (.slice A L.length c) L.length (aP L))))) (fun z : Option Addr × Nat => True) (fun z => .tuple #[]) (fun z => (aa (am p [Mp r, .slice z.1 (wo L k).length z.2, c2, c3, c4, I (d + 1)] 96) (aa (eK r fv (je f (bS k))) (Ow 122 10 (.slice z.1 (wo L k).length z.2) (wo L k).length (aP (wo L k)))))) := by
 refine en func53 rfl fun _ F=>sr<|lx rfl (aV (l := [U8 k.s0, U8 k.s1, U8 k.s2, U8 k.s3, U8 k.d0, U8 k.d1, U8 k.d2, U8 k.d3, I k.proto, I k.id]) rfl rfl) fun b3 _=>nr<|ea rfl<|ls rfl<|cy (nU p r c2 c3 c4 (I d) A c L f k hq) rfl fun z=>ue _ (ak _ _ _)<|nk<|jg<|eb rfl<|fz rfl<|ld rfl rfl<|gE rfl<|ea rfl<|fz rfl<|lx rfl (dU rfl rfl rfl) fun _ _=>ln ?_
 exact eG rfl z trivial rfl (Ent.take (Q := (aa ((aa (am p [Mp r, .slice z.1 (wo L k).length z.2, c2, c3, c4, I (d + 1)] 96) (aa (eK r fv (je f (bS k))) (Ow 122 10 (.slice z.1 (wo L k).length z.2) (wo L k).length (aP (wo L k)))))) (F))))
end
section
variable {F : ab} {f : List Value -> Option Value} {p : Nat} {m wt n0 now d : Int}
structure Bg where
 k : Ky
 t : Int
 data : ByteArray
structure TS where
 q : List Bg
 now : Int
 dr : Int
def aA (q : List Bg) : List Ky := q.map (·.k)
theorem eY (q : List Bg) : (aA q).length = q.length := List.length_map ..
def mM (q : List Bg) (k : Ky) : List Bg := q.filter fun b => !decide (b.k = k)
theorem nS (q : List Bg) (k : Ky) : aA (mM q k) = wo (aA q) k := by
 unfold aA mM wo
 rw [List.filter_map]
 rfl
def begP (e : Bg × Nat) : ab := ex fun x : Option Addr × Nat => (aa (am e.2 [I e.1.t, .slice x.1 e.1.data.size x.2] 127) (OwnB 5 x e.1.data))
theorem begP.fold {e : Bg × Nat} (u : Option Addr × Nat) : Ent (aa (am e.2 [I e.1.t, .slice u.1 e.1.data.size u.2] 127) (aa (OwnB 5 u e.1.data) (F))) (aa (begP e) (F)) :=
 Ent.trans (Ent.of (ak _ _ _).symm) (Ent.ex (f := fun x : Option Addr × Nat => (aa (am e.2 [I e.1.t, .slice x.1 e.1.data.size x.2] 127) (OwnB 5 x e.1.data))) u)
def dO : List (Bg × Nat) -> ab
 | [] => emp
 | e :: l => (aa (begP e) (dO l))
theorem iR : ∀ (l1 l2 : List (Bg × Nat)), dO (l1 ++ l2) = (aa (dO l1) (dO l2))
 | [], l2 => (bN _).symm
 | e :: l1, l2 => by
  show (aa (begP e) (dO (l1 ++ l2))) = _
  rw [iR l1 l2, <- ak]
  rfl
theorem xT (e : Bg × Nat) : dO [e] = begP e := cR _
structure MapIs (es : List (Bg × Nat)) (f : List Value -> Option Value) : Prop where
 nd : (aA (es.map (·.1))).Nodup
 at_ : ∀ k : Ky, f (bS k) = (es.find? fun e => decide (e.1.k = k)).map fun e => Pt e.2 0
theorem MapIs.nil : MapIs [] (fun _ => none) := ⟨List.nodup_nil, fun _ => rfl⟩
theorem MapIs.del {es : List (Bg × Nat)} (h : MapIs es f) (k : Ky) : MapIs (es.filter fun e => !decide (e.1.k = k)) (je f (bS k)) := by
 refine ⟨?_, fun k' => ?_⟩
 ·refine h.nd.sublist ?_
  exact (List.filter_sublist.map _).map _
 ·rw [List.find?_filter]
  by_cases e : k' = k
  ·subst e
   rw [mz]
   have : (es.find? fun a => decide ((!decide (a.1.k = k')) = true /\ decide (a.1.k = k') = true)) = none := by
    rw [List.find?_eq_none]
    intro a _
    simp
   rw [this]; rfl
  ·rw [kR (fun h => e (encKy_inj.1 h)), h.at_]
   congr 1
   congr 1
   funext a
   by_cases ha : a.1.k = k'
   ·simp [ha, e]
   ·simp [ha]
theorem MapIs.put {es : List (Bg × Nat)} (h : MapIs es f) (b : Bg) (n : Nat) (hn : ∀ e ∈ es, e.1.k ≠ b.k) : MapIs (es ++ [(b, n)]) (ek f (bS b.k) (Pt n 0)) := by
 refine ⟨?_, fun k' => ?_⟩
 ·unfold aA
  rw [List.map_append, List.map_append, List.nodup_append]
  refine ⟨h.nd, by simp, fun a ha c hc => ?_⟩
  simp only [List.map_cons, List.map_nil, List.mem_singleton] at hc
  rw [List.map_map] at ha
  obtain ⟨e, he, rfl⟩ := List.mem_map.1 ha
  rw [hc]
  exact hn e he
 ·rw [List.find?_append]
  by_cases e : k' = b.k
  ·subst e
   have : (es.find? fun e => decide (e.1.k = b.k)) = none := by
    rw [List.find?_eq_none]
    intro a ha
    simp [hn a ha]
   rw [my, this]
   simp
  ·rw [jd (fun h => e (encKy_inj.1 h)), h.at_]
   have : (([(b, n)] : List (Bg × Nat)).find? fun e => decide (e.1.k = k')) = none := by
    rw [List.find?_eq_none]
    intro a ha
    rw [List.mem_singleton.1 ha]
    simp [Ne.symm e]
   rw [this]
   simp
def TabP (p : Nat) (m wt : Int) (T : TS) : ab := ex fun x : Nat × (Option Addr × Nat) × List (Bg × Nat) × (List Value -> Option Value) => (aa (lift (x.2.2.1.map (·.1) = T.q /\ MapIs x.2.2.1 x.2.2.2)) (aa (am p [Mp x.1, .slice x.2.1.1 (aA T.q).length x.2.1.2, I m, I wt, I T.now, I T.dr] 96) (aa (eK x.1 fv x.2.2.2) (aa (Ow 122 10 (.slice x.2.1.1 (aA T.q).length x.2.1.2) (aA T.q).length (aP (aA T.q))) (dO x.2.2.1)))))
theorem TabP.fold {T : TS} (r : Nat) (a : Option Addr × Nat) (es : List (Bg × Nat)) (f : List Value -> Option Value) (h1 : es.map (·.1) = T.q) (h2 : MapIs es f) : Ent (aa (am p [Mp r, .slice a.1 (aA T.q).length a.2, I m, I wt, I T.now, I T.dr] 96) (aa (eK r fv f) (aa (Ow 122 10 (.slice a.1 (aA T.q).length a.2) (aA T.q).length (aP (aA T.q))) (aa (dO es) (F))))) (aa (TabP p m wt T) (F)) := by
 refine Ent.trans (Ent.lift (p := es.map (·.1) = T.q /\ MapIs es f) ⟨h1, h2⟩) (Ent.trans (Ent.of ?_) (Ent.ex (f := fun x : Nat × (Option Addr × Nat) × List (Bg × Nat) × (List Value -> Option Value) => (aa (lift (x.2.2.1.map (·.1) = T.q /\ MapIs x.2.2.1 x.2.2.2)) (aa (am p [Mp x.1, .slice x.2.1.1 (aA T.q).length x.2.1.2, I m, I wt, I T.now, I T.dr] 96) (aa (eK x.1 fv x.2.2.2) (aa (Ow 122 10 (.slice x.2.1.1 (aA T.q).length x.2.1.2) (aA T.q).length (aP (aA T.q))) (dO x.2.2.1)))))) (r, a, es, f)))
 simp only [ak]
theorem iT {σ w : World} {T : TS} (h : Sat σ w (aa (TabP p m wt T) (F))) : ∃ x : Nat × (Option Addr × Nat) × List (Bg × Nat) × (List Value -> Option Value), ((x.2.2.1.map (·.1) = T.q /\ MapIs x.2.2.1 x.2.2.2) /\ ((x.2.1.1 = none /\ T.q = []) \/ ∃ b o, x.2.1.1 = some (ad b o))) /\ Sat σ w (aa (am p [Mp x.1, .slice x.2.1.1 (aA T.q).length x.2.1.2, I m, I wt, I T.now, I T.dr] 96) (aa (eK x.1 fv x.2.2.2) (aa (Ow 122 10 (.slice x.2.1.1 (aA T.q).length x.2.1.2) (aA T.q).length (aP (aA T.q))) (aa (dO x.2.2.1) (F))))) := by
 obtain ⟨x, hx⟩ := sat_ex.1 h
 simp only [ak] at hx
 obtain ⟨h1, h2⟩ := sat_lift.1 hx
 refine ⟨x, ⟨h1, ?_⟩, h2⟩
 rcases i4 h2.drop.drop with ⟨g1, _, g2, _⟩ | g
 ·rw [eY] at g2
  exact .inl ⟨g1, List.eq_nil_of_length_eq_zero g2⟩
 ·exact .inr g
def pL (cur now : Int) : Int := if 1125899906842624 < now then 1 else if now < cur then 24 else 0
def zW (wt now : Int) (b : Bg) : Bool := decide (wt < now - b.t)
def TS.pass (T : TS) (wt now : Int) : TS := ⟨T.q.dropWhile (zW wt now), now, T.dr + (T.q.takeWhile (zW wt now)).length⟩
theorem zD {b : Bg} {q : List Bg} (h : wt < now - b.t) : TS.pass ⟨b :: q, n0, d⟩ wt now = TS.pass ⟨q, now, d + 1⟩ wt now := by
 have hl : zW wt now b = true := decide_eq_true h
 unfold TS.pass
 simp only [List.dropWhile_cons, List.takeWhile_cons, hl, if_true, List.length_cons]
 congr 1
 omega
theorem mq {q : List Bg} (h : ∀ b, q.head? = some b -> ¬ wt < now - b.t) : TS.pass ⟨q, n0, d⟩ wt now = ⟨q, now, d⟩ := by
 unfold TS.pass
 cases q with
 | nil => simp
 | cons b q =>
  have hl : zW wt now b = false := decide_eq_false (h b rfl)
  simp [List.dropWhile_cons, List.takeWhile_cons, hl]
structure TOk (n : Nat) (T : TS) : Prop where
 now : 0 <= T.now /\ T.now <= 1125899906842624
 bg : ∀ b ∈ T.q, (0 <= b.t /\ b.t <= 1125899906842624) /\ b.data.size <= 8200
 nd : (aA T.q).Nodup
 dr : 0 <= T.dr
 n : T.dr + T.q.length <= n
theorem Ep {b : Bg} {q : List Bg} (h : (aA (b :: q)).Nodup) : wo (aA (b :: q)) b.k = aA q /\ mM (b :: q) b.k = q := by
 have h2 := List.nodup_cons.1 (show (b.k :: aA q).Nodup from h)
 constructor
 ·show wo ([b.k] ++ aA q) b.k = _
  rw [pI, mi rfl, List.nil_append, pH fun x hx e => h2.1 (by rw [<- e]; exact hx)]
 ·unfold mM
  rw [List.filter_cons, if_neg (by simp)]
  rw [List.filter_eq_self]
  intro x hx
  have : x.k ≠ b.k := fun e => h2.1 (e ▸ List.mem_map.2 ⟨x, hx, rfl⟩)
  simp [this]
theorem Aa {e : Bg × Nat} {es : List (Bg × Nat)} (h : (aA ((e :: es).map (·.1))).Nodup) : ((e :: es).filter fun a => !decide (a.1.k = e.1.k)) = es := by
 have h2 := List.nodup_cons.1 (show (e.1.k :: aA (es.map (·.1))).Nodup from h)
 rw [List.filter_cons, if_neg (by simp), List.filter_eq_self]
 intro x hx
 have : x.1.k ≠ e.1.k := fun h => h2.1 (h ▸ List.mem_map.2 ⟨x.1, List.mem_map.2 ⟨x, hx, rfl⟩, rfl⟩)
 simp [this]
def D7 : TS := ⟨[], 0, 0⟩
theorem HD {r : Nat} : Ent (aa (am p [Mp r, Ns, I m, I wt, I 0, I 0] 96) (aa (eK r fv (fun _ => none)) (F))) (aa (TabP p m wt D7) (F)) :=
 Ent.trans (aw (aw (Ent.trans (Ent.of (bN F).symm) (Ent.trans (aw (Ent.of (bN F).symm) _) ((Ow.nil 122 10).frame _))) _) _) (TabP.fold (T := D7) r (none, 0) [] (fun _ => none) rfl MapIs.nil)
theorem yF (a c : Int) (ha : 1 <= a /\ a <= 64) (hc : 0 <= c /\ c <= 1125899906842624) : FSpec prog 10 #[I a, I c] (emp) (fun p : Nat => True) (fun p => .tuple #[Pt p 0, I 0]) (fun p => TabP p a c D7) := by
 refine en func10 r fun _ F=>bG<|sb r<|nj<|sa r<|bJ r<|ea r<|go r<|ea r<|go r<|bJ r<|eb r<|go r<|ea r<|go r<|bJ r<|eb r<|go r<|ea r<|go r<|bJ r<|an r<|cf r<|sk<|sr<|lx r (rF fv r) fun r20 _=>eb r<|lv (af r) r<|bx r fun b24=>eb r<|nk<|jr ?_
 exact cH rfl rfl rfl b24 trivial rfl HD
set_option maxHeartbeats 600000 in
theorem l9 (p : Nat) (m wt : Int) (T : TS) (now : Int) (h : pL T.now now = 0) (n : Nat) (hT : TOk n T) (hn : n <= 1000000) (hwt : 0 <= wt /\ wt <= 1125899906842624) : FSpec prog 49 #[Pt p 0, I now] (TabP p m wt T) (fun _ : Unit => True) (fun _ => I 0) (fun _ => TabP p m wt (T.pass wt now)) := by
 have hnow : T.now <= now /\ now <= 1125899906842624 := by unfold pL at h; split at h; cases h; split at h; cases h; omega
 have hT1 := hT.now
 have hT2 := hT.dr
 have hT3 := hT.n
 refine en func49 rfl fun _ F=>pC _ _ (fun w hs => iT hs) fun x hx => ?_
 obtain ⟨⟨hx1, hx2⟩, hx3⟩ := hx
 refine aE rfl<|js<|jb<|sa rfl<|lv (bj rfl rfl) rfl<|an rfl<|cf rfl<|sa rfl<|bJ rfl<|an rfl<|cf rfl<|sr<|ec rfl<|fz rfl<|ld rfl rfl<|bJ rfl<|an rfl<|cf rfl<|cY<|sr<|ec rfl<|fz rfl<|lx rfl (dU rfl rfl rfl) fun _ _=>nj<|jb ?_
 refine bX (X := TS) (fun y => [(0, Pt p 0), (1, I now)]) (fun y => (aa (TabP p m wt y) (F))) (fun y => y.now = now /\ T.pass wt now = y.pass wt now /\ (∀ b ∈ y.q, (0 <= b.t /\ b.t <= 1125899906842624) /\ b.data.size <= 8200) /\ y.dr + y.q.length <= 1000000 /\ 0 <= y.dr) (fun y => y.q.length) (⟨T.q, now, T.dr⟩) ⟨rfl, rfl, hT.bg, by dsimp only; omega, hT2⟩ ⟨rfl, rfl, trivial⟩ (TabP.fold (T := ⟨T.q, now, T.dr⟩) x.1 x.2.1 x.2.2.1 x.2.2.2 hx1 hx2) (fun y hy => ?_)
 clear hx1 hx2 hx3 x
 obtain ⟨hyn, hy, hyb, hyl, hyd⟩ := hy
 refine pC _ _ (fun w hs => iT hs) fun x hx => ?_
 obtain ⟨⟨hx1, hx2⟩, hx3⟩ := hx
 obtain ⟨r, ⟨A, c⟩, es, f⟩ := x
 dsimp only at hx1 hx2 hx3
 refine dY (aa (am p [Mp r, .slice A (aA y.q).length c, I m, I wt, I now, I y.dr] 96) (aa (eK r fv f) (aa (Ow 122 10 (.slice A (aA y.q).length c) (aA y.q).length (aP (aA y.q))) (aa (dO es) (F))))) (by rw [hyn]) ?_
 cases es with
 | nil => ?_
 | cons e rest => ?_
 ·refine js<|js<|dM ae<|qb rfl<|qz rfl<|ql rfl rfl<|qv (bC rfl) rfl<|qv ((bt rfl rfl).bool_f (by rw [show y.q = [] from hx1.symm]; decide)) rfl<|qa rfl ?_
  refine qk rfl<|qk rfl<|qk rfl<|qk rfl<|qk rfl<|qk rfl<|qk rfl<|qk rfl<|qk rfl<|qk rfl<|qk rfl<|qk rfl<|qk rfl<|qk rfl<|qk rfl<|qk rfl<|qk rfl<|qk rfl<|qk rfl<|qk rfl<|qk rfl<|qa rfl<|qn<|kt<|cf rfl<|cx<|ke<|ke<|kh<|kt<|aE rfl<|jr ?_
  have hqn : y.q = [] := hx1.symm
  have hs := mq (q := y.q) (n0 := y.now) (now := now) (wt := wt) (d := y.dr) (fun b hb => by rw [hqn] at hb; cases hb)
  exact aD rfl rfl () trivial rfl (Ent.trans (TabP.fold (T := ⟨y.q, now, y.dr⟩) r (A, c) [] f hx1 hx2) (Ent.of (by rw [hy, <- hs])))
 ·refine js<|js ?_
  obtain ⟨b, o, rfl⟩ : ∃ b o, A = some (ad b o) := by rcases hx3 with ⟨_, g⟩ | g; (rw [<- hx1] at g; cases g); exact g
  refine dY (aa (begP e) (aa (am p [Mp r, Sk b o (aA y.q).length c, I m, I wt, I now, I y.dr] 96) (aa (eK r fv f) (aa (Ow 122 10 (Sk b o (aA y.q).length c) (aA y.q).length (aP (aA y.q))) (aa (dO rest) (F)))))) (by show (aa (_) (aa (_) (aa (_) (aa ((aa (begP e) (dO rest))) (F))))) = _; ac_rfl)<|gh fun u =>dY _ (ak _ _ _) ?_
  have hq0 : aA y.q = e.1.k :: aA (rest.map (·.1)) := by rw [<- hx1]; rfl
  have hql : (aA y.q).length = rest.length + 1 := by rw [hq0]; simp [aA]
  have hk0 : (aA y.q)[0]? = some e.1.k := by rw [hq0]; rfl
  have hfk : (f (bS e.1.k)).getD (Np) = Pt e.2 0 := by rw [hx2.at_]; simp
  have hbe := hyb e.1 (by rw [<- hx1]; exact List.mem_map.2 ⟨e, List.mem_cons_self .., rfl⟩)
  have hy4 : y.q.length = rest.length + 1 := by rw [<- hx1]; simp
  refine dM ae<|qb rfl<|qz rfl<|ql rfl rfl<|qv (bC rfl) rfl<|Cd rfl<|qa rfl<|qo rfl<|qa rfl<|qo rfl<|qa rfl<|qo rfl<|qa rfl<|qo rfl<|qz rfl<|qo rfl<|ql rfl rfl<|qo rfl<|qa rfl<|qo rfl<|qa rfl<|qo rfl<|qz rfl<|qo rfl<|ql rfl rfl<|qo rfl<|qv (au rfl rfl (by omega)) rfl<|qo rfl<|qv (br (vs := [U8 e.1.k.s0, U8 e.1.k.s1, U8 e.1.k.s2, U8 e.1.k.s3, U8 e.1.k.d0, U8 e.1.k.d1, U8 e.1.k.d2, U8 e.1.k.d3, I e.1.k.proto, I e.1.k.id]) rfl rfl (fun j u hj => bU (S := Ow 122 10 (Sk b o (aA y.q).length c) (aA y.q).length (aP (aA y.q))) ((RdS.own (m := 10) (e := 122) (c := c) hF (.inr ⟨b, o, rfl⟩)).rd b o rfl 0 e.1.k j u hk0 hj))) rfl<|qo rfl<|qv ((i8 (k := bS e.1.k) (f := f) rfl rfl (rk _)).as (v' := Pt e.2 0) hfk) rfl<|qo rfl<|qa rfl<|qo rfl<|qz rfl<|qo rfl<|ql rfl rfl<|qo rfl<|qv (bm rfl rfl (by omega)) rfl<|qo rfl<|qa rfl<|qo rfl<|qa rfl<|qo rfl<|qz rfl<|qo rfl<|ql rfl rfl<|qo rfl<|qv (bt rfl rfl) rfl<|qa rfl<|qn<|kt ?_
  refine aG rfl (fun h1 => ?_) (fun h1 => ?_)
  ·refine sk<|jb<|jg<|ec rfl<|fz rfl<|ld rfl rfl<|lv (au rfl rfl (by omega)) rfl<|lv (br (vs := [U8 e.1.k.s0, U8 e.1.k.s1, U8 e.1.k.s2, U8 e.1.k.s3, U8 e.1.k.d0, U8 e.1.k.d1, U8 e.1.k.d2, U8 e.1.k.d3, I e.1.k.proto, I e.1.k.id]) rfl rfl (fun j u hj => bU (S := Ow 122 10 (Sk b o (aA y.q).length c) (aA y.q).length (aP (aA y.q))) ((RdS.own (m := 10) (e := 122) (c := c) hF (.inr ⟨b, o, rfl⟩)).rd b o rfl 0 e.1.k j u hk0 hj))) rfl<|cy (si p r (I m) (I wt) (I now) (some (ad b o)) c (aA y.q) f e.1.k (by omega) y.dr (by omega)) rfl fun z=>ln<|kb ?_
   have hnd := hx2.nd
   have hyq : y.q = e.1 :: rest.map (·.1) := hx1.symm
   have hwo : wo (aA y.q) e.1.k = aA (rest.map (·.1)) := by rw [hyq]; exact (Ep hnd).1
   have hpg := zD (b := e.1) (q := rest.map (·.1)) (n0 := y.now) (now := now) (wt := wt) (d := y.dr) h1
   rw [hwo]
   exact bO (⟨rest.map (·.1), now, y.dr + 1⟩) ⟨rfl, by rw [hy]; show TS.pass ⟨y.q, y.now, y.dr⟩ wt now = _; rw [hyq]; exact hpg, fun b hb => hyb b (by rw [hyq]; exact List.mem_cons_of_mem _ hb), by dsimp only; rw [List.length_map]; omega, by dsimp only; omega⟩ (by dsimp only; rw [List.length_map]; omega) ⟨rfl, rfl, trivial⟩ (Ent.trans (Ent.take (Q := (aa (am p [Mp r, .slice z.1 (aA (rest.map (·.1))).length z.2, I m, I wt, I now, I (y.dr + 1)] 96) (aa (eK r fv (je f (bS e.1.k))) (aa (Ow 122 10 (.slice z.1 (aA (rest.map (·.1))).length z.2) (aA (rest.map (·.1))).length (aP (aA (rest.map (·.1))))) (aa (dO rest) (F))))))) (TabP.fold (T := ⟨rest.map (·.1), now, y.dr + 1⟩) r z rest (je f (bS e.1.k)) rfl (by have := hx2.del e.1.k; rwa [Aa hnd] at this)))
  ·refine cx ?_
   refine ke<|ke<|kh<|kt<|aE rfl<|jr ?_
   have hs := mq (q := y.q) (n0 := y.now) (now := now) (wt := wt) (d := y.dr) (fun b hb => by rw [<- hx1] at hb; cases hb; exact h1)
   exact aD rfl rfl () trivial rfl (Ent.trans (Ent.take (Q := (aa (am e.2 [I e.1.t, .slice u.1 e.1.data.size u.2] 127) (aa (OwnB 5 u e.1.data) (aa (am p [Mp r, Sk b o (aA y.q).length c, I m, I wt, I now, I y.dr] 96) (aa (eK r fv f) (aa (Ow 122 10 (Sk b o (aA y.q).length c) (aA y.q).length (aP (aA y.q))) (aa (dO rest) (F))))))))) (Ent.trans (begP.fold u) (Ent.trans (Ent.of (Q := (aa (am p [Mp r, Sk b o (aA y.q).length c, I m, I wt, I now, I y.dr] 96) (aa (eK r fv f) (aa (Ow 122 10 (Sk b o (aA y.q).length c) (aA y.q).length (aP (aA y.q))) (aa (dO (e :: rest)) (F)))))) (by show _ = (aa (_) (aa (_) (aa (_) (aa ((aa (begP e) (dO rest))) (F))))); ac_rfl)) (Ent.trans (TabP.fold (T := ⟨y.q, now, y.dr⟩) r (some (ad b o), c) (e :: rest) f hx1 hx2) (Ent.of (by rw [hy, <- hs]))))))
end
section
variable {es : List (Bg × Nat)} {k : Ky} {q : List Bg} {T : TS} {pk : Pk} {m : Int}
theorem mA (p : Pk) : FSpec prog 51 #[.agg (qq2 p).toArray] emp (fun _ : Unit => True) (fun _ => .agg [U8 (ay p).s0, U8 (ay p).s1, U8 (ay p).s2, U8 (ay p).s3, U8 (ay p).d0, U8 (ay p).d1, U8 (ay p).d2, U8 (ay p).d3, I (ay p).proto, I (ay p).id].toArray) (fun _ => emp) := xr p
def jL (es : List (Bg × Nat)) (k : Ky) : Option Addr := (es.find? fun e => decide (e.1.k = k)).map fun e => ad e.2 0
theorem MapIs.ptr {f : List Value -> Option Value} (h : MapIs es f) (k : Ky) : (f (bS k)).getD (Np) = .pointer (jL es k) := by
 rw [h.at_]
 unfold jL
 cases es.find? fun e => decide (e.1.k = k) <;> rfl
theorem ptrOf_some : (jL es k).isSome = true ↔ k ∈ aA (es.map (·.1)) := by
 unfold jL aA
 rw [Option.isSome_map, List.find?_isSome, List.map_map]
 simp only [decide_eq_true_eq, List.mem_map, Function.comp]
theorem jV (q : Bg × Nat -> Bool) : ∀ es : List (Bg × Nat), Ent (dO es) (dO (es.filter q))
 | [] => ah _
 | e :: es => by
  rw [List.filter_cons]
  split
  ·exact aw (jV q es) _
  ·exact Ent.trans Ent.drop (jV q es)
def TS.free (T : TS) (k : Ky) : TS := if k ∈ aA T.q then ⟨mM T.q k, T.now, T.dr + 1⟩ else T
def TS.begn (T : TS) (m : Int) (pk : Pk) : Int × TS :=
 if gV pk 0 ≠ 0 then (gV pk 0, T.free (ay pk)) else if m <= ((T.free (ay pk)).q.length : Int) then (22, T.free (ay pk)) else (0, ⟨(T.free (ay pk)).q ++ [⟨ay pk, (T.free (ay pk)).now, pk.data⟩], (T.free (ay pk)).now, (T.free (ay pk)).dr⟩)
theorem zk (q : List Bg) (k : Ky) : (mM q k).Sublist q := List.filter_sublist
theorem zT : k ∉ aA (mM q k) := by
 intro h
 obtain ⟨b, hb, e⟩ := List.mem_map.1 h
 have := (List.mem_filter.1 hb).2
 simp [e] at this
theorem B6 (h : k ∈ aA q) : (mM q k).length + 1 <= q.length := by
 obtain ⟨b, hb, e⟩ := List.mem_map.1 h
 have := List.length_filter_lt_length_iff_exists (p := fun b : Bg => !decide (b.k = k)) (l := q)
 have h2 := this.2 ⟨b, hb, by simp [e]⟩
 unfold mM
 omega
theorem xD : k ∉ aA (T.free k).q := by
 unfold TS.free
 split
 ·exact zT
 ·assumption
theorem TOk.free {n : Nat} (h : TOk n T) (k : Ky) : TOk n (T.free k) := by
 unfold TS.free
 split
 ·rename_i hk
  have hl := B6 hk
  have hs := zk T.q k
  have hd := h.dr
  have hn := h.n
  exact ⟨h.now, fun b hb => h.bg b (hs.subset hb), h.nd.sublist (hs.map _), by dsimp only; omega, by dsimp only; omega⟩
 ·exact h
theorem nA {a : Nat} (h : gV pk a = 0) : a + pk.data.size <= 8200 := by
 unfold gV at h
 split at h
 ·cases h
 ·split at h
  ·cases h
  ·split at h
   ·cases h
   ·omega
theorem xU (h : gV pk 0 ≠ 0) : T.begn m pk = (gV pk 0, T.free (ay pk)) := if_pos h
theorem vC (h : gV pk 0 = 0) (h2 : m <= ((T.free (ay pk)).q.length : Int)) : T.begn m pk = (22, T.free (ay pk)) := by unfold TS.begn; rw [if_neg (fun n => n h), if_pos h2]
theorem uJ (h : gV pk 0 = 0) (h2 : ¬ m <= ((T.free (ay pk)).q.length : Int)) : T.begn m pk = (0, ⟨(T.free (ay pk)).q ++ [⟨ay pk, (T.free (ay pk)).now, pk.data⟩], (T.free (ay pk)).now, (T.free (ay pk)).dr⟩) := by unfold TS.begn; rw [if_neg (fun n => n h), if_neg h2]
set_option maxHeartbeats 800000 in
theorem ic (tp : Nat) (m wt : Int) (T : TS) (pk : Pk) (n : Nat) (hT : TOk n T) (hn : n <= 1000000) (hd : pk.data.size <= 140737488351232) : FSpec prog 50 #[Pt tp 0, .agg [I pk.id, .bool pk.more, I pk.off, I pk.ttl, I pk.proto, U8 pk.s0, U8 pk.s1, U8 pk.s2, U8 pk.s3, U8 pk.d0, U8 pk.d1, U8 pk.d2, U8 pk.d3, .string pk.data].toArray] (TabP tp m wt T) (fun _ : Unit => True) (fun _ => I (T.begn m pk).1) (fun _ => TabP tp m wt (T.begn m pk).2) := by
 refine en func50 r fun _ F=>sr<|lx r (aV (l := [I pk.id, .bool pk.more, I pk.off, I pk.ttl, I pk.proto, U8 pk.s0, U8 pk.s1, U8 pk.s2, U8 pk.s3, U8 pk.d0, U8 pk.d1, U8 pk.d2, U8 pk.d3, .string pk.data]) r r) fun b3 _=>an r<|sr<|ls r<|cy (mA pk) r fun _=>cj<|al r fun b5=>so r r<|nk ?_
 refine gO (X := Unit) (fun _ => [(0, Pt tp 0), (3, Pt b3 0), (5, Pt b5 0)]) (fun _ => (aa (TabP tp m wt (T.free (ay pk))) (aa (am b5 [U8 (ay pk).s0, U8 (ay pk).s1, U8 (ay pk).s2, U8 (ay pk).s3, U8 (ay pk).d0, U8 (ay pk).d1, U8 (ay pk).d2, U8 (ay pk).d3, I (ay pk).proto, I (ay pk).id] 122) (aa (am b3 [I pk.id, .bool pk.more, I pk.off, I pk.ttl, I pk.proto, U8 pk.s0, U8 pk.s1, U8 pk.s2, U8 pk.s3, U8 pk.d0, U8 pk.d1, U8 pk.d2, U8 pk.d3, .string pk.data] 39) (F))))) (fun _ => True) ?_ (fun _ _ => ?_)
 ·refine js ?_
  refine dY (aa (TabP tp m wt T) (aa (am b5 [U8 (ay pk).s0, U8 (ay pk).s1, U8 (ay pk).s2, U8 (ay pk).s3, U8 (ay pk).d0, U8 (ay pk).d1, U8 (ay pk).d2, U8 (ay pk).d3, I (ay pk).proto, I (ay pk).id] 122) (aa (am b3 [I pk.id, .bool pk.more, I pk.off, I pk.ttl, I pk.proto, U8 pk.s0, U8 pk.s1, U8 pk.s2, U8 pk.s3, U8 pk.d0, U8 pk.d1, U8 pk.d2, U8 pk.d3, .string pk.data] 39) (F)))) (by ac_rfl)<|pC _ _ (fun w hs => iT hs) fun x hx => ?_
  obtain ⟨⟨hx1, hx2⟩, hx3⟩ := hx
  have hT2 := hT.dr
  have hT3 := hT.n
  refine dM ae<|qb r<|qz r<|ql r r<|qv (ax r) r<|qv ((i8 (k := bS (ay pk)) (f := x.2.2.2) r r (rk _)).as (v' := .pointer (jL x.2.2.1 (ay pk))) (hx2.ptr _)) r<|qv (fO r r) r<|qn<|kt ?_
  refine gP rfl (fun h1 => ?_) (fun h1 => ?_)
  ·refine jg<|ea r<|ls r<|cy (si tp x.1 (I m) (I wt) (I T.now) x.2.1.1 x.2.1.2 (aA T.q) x.2.2.2 (ay pk) (by rw [eY]; omega) T.dr (by omega)) r fun z=>ln ?_
   have hmem : (ay pk) ∈ aA T.q := by rw [<- hx1]; exact ptrOf_some.1 h1
   have hfr : (T.free (ay pk)) = ⟨mM T.q (ay pk), T.now, T.dr + 1⟩ := if_pos hmem
   rw [<- nS]
   exact eM () trivial ⟨rfl, rfl, rfl, trivial⟩ (Ent.trans (Ent.take (Q := (aa (am tp [Mp x.1, .slice z.1 (aA (mM T.q (ay pk))).length z.2, I m, I wt, I T.now, I (T.dr + 1)] 96) (aa (eK x.1 fv (je x.2.2.2 (bS (ay pk)))) (aa (Ow 122 10 (.slice z.1 (aA (mM T.q (ay pk))).length z.2) (aA (mM T.q (ay pk))).length (aP (aA (mM T.q (ay pk))))) (aa (dO x.2.2.1) (aa (am b5 [U8 (ay pk).s0, U8 (ay pk).s1, U8 (ay pk).s2, U8 (ay pk).s3, U8 (ay pk).d0, U8 (ay pk).d1, U8 (ay pk).d2, U8 (ay pk).d3, I (ay pk).proto, I (ay pk).id] 122) (aa (am b3 [I pk.id, .bool pk.more, I pk.off, I pk.ttl, I pk.proto, U8 pk.s0, U8 pk.s1, U8 pk.s2, U8 pk.s3, U8 pk.d0, U8 pk.d1, U8 pk.d2, U8 pk.d3, .string pk.data] 39) (F))))))))) (Ent.trans (aw (aw (aw (Ent.frame (jV (fun e => !decide (e.1.k = (ay pk))) x.2.2.1) _) _) _) _) (Ent.trans (TabP.fold (T := ⟨mM T.q (ay pk), T.now, T.dr + 1⟩) x.1 z (x.2.2.1.filter fun e => !decide (e.1.k = (ay pk))) (je x.2.2.2 (bS (ay pk))) (by rw [<- hx1]; unfold mM; rw [List.filter_map]; rfl) (hx2.del _)) (Ent.of (by rw [hfr])))))
  ·refine jk ?_
   have hmem : ¬ (ay pk) ∈ aA T.q := by rw [<- hx1]; intro hh; rw [ptrOf_some.2 hh] at h1; cases h1
   have hfr : (T.free (ay pk)) = T := if_neg hmem
   exact eM () trivial ⟨rfl, rfl, rfl, trivial⟩ (Ent.trans (Ent.take (Q := (aa (am tp [Mp x.1, .slice x.2.1.1 (aA T.q).length x.2.1.2, I m, I wt, I T.now, I T.dr] 96) (aa (eK x.1 fv x.2.2.2) (aa (Ow 122 10 (.slice x.2.1.1 (aA T.q).length x.2.1.2) (aA T.q).length (aP (aA T.q))) (aa (dO x.2.2.1) (aa (am b5 [U8 (ay pk).s0, U8 (ay pk).s1, U8 (ay pk).s2, U8 (ay pk).s3, U8 (ay pk).d0, U8 (ay pk).d1, U8 (ay pk).d2, U8 (ay pk).d3, I (ay pk).proto, I (ay pk).id] 122) (aa (am b3 [I pk.id, .bool pk.more, I pk.off, I pk.ttl, I pk.proto, U8 pk.s0, U8 pk.s1, U8 pk.s2, U8 pk.s3, U8 pk.d0, U8 pk.d1, U8 pk.d2, U8 pk.d3, .string pk.data] 39) (F))))))))) (Ent.trans (TabP.fold x.1 x.2.1 x.2.2.1 x.2.2.2 hx1 hx2) (Ent.of (by rw [hfr]))))
 ·have hTf := hT.free (ay pk)
  have hno := xD (T := T) (k := (ay pk))
  generalize hT1 : (T.free (ay pk)) = T1 at hTf hno ⊢
  refine js<|sr<|ls r<|cy (kJ pk 0 (by decide) (by omega)) r fun _=>cj<|an r<|sa r<|lv (bs r r) r<|nk ?_
  refine aG rfl (fun h2 => ?_) (fun h2 => ?_)
  ·refine sb r<|nk<|jr<|kd ?_
   have e := xU (m := m) (T := T) h2
   rw [e, hT1]
   exact aD rfl rfl () trivial rfl Ent.take
  ·refine sk<|js<|js ?_
   refine dY (aa (TabP tp m wt T1) (aa (am b5 [U8 (ay pk).s0, U8 (ay pk).s1, U8 (ay pk).s2, U8 (ay pk).s3, U8 (ay pk).d0, U8 (ay pk).d1, U8 (ay pk).d2, U8 (ay pk).d3, I (ay pk).proto, I (ay pk).id] 122) (aa (am b3 [I pk.id, .bool pk.more, I pk.off, I pk.ttl, I pk.proto, U8 pk.s0, U8 pk.s1, U8 pk.s2, U8 pk.s3, U8 pk.d0, U8 pk.d1, U8 pk.d2, U8 pk.d3, .string pk.data] 39) (F)))) (by ac_rfl)<|pC _ _ (fun w hs => iT hs) fun x hx => ?_
   obtain ⟨⟨hx1, hx2⟩, hx3⟩ := hx
   have hs0 : gV pk 0 = 0 := Classical.not_not.1 h2
   have hsz := nA hs0
   have hT2 := hTf.dr
   have hT3 := hTf.n
   have hnew : ∀ e ∈ x.2.2.1, e.1.k ≠ (ay pk) := fun e he hk => hno (by rw [<- hx1]; exact hk ▸ List.mem_map.2 ⟨e.1, List.mem_map.2 ⟨e, he, rfl⟩, rfl⟩)
   have hkl := eY T1.q
   refine dM ae<|qb r<|qz r<|ql r r<|qv (bC r) r<|qb r<|qz r<|ql r r<|qv ((dt r r).as (v' := .bool (decide (m <= (T1.q.length : Int)))) (by rw [eY])) r<|qn<|kt ?_
   refine aG rfl (fun h3 => ?_) (fun h3 => ?_)
   ·refine aE r<|jr<|kd ?_
    have e := vC (m := m) (T := T) hs0 (by rw [hT1]; exact h3)
    rw [e, hT1]
    exact aD rfl rfl () trivial rfl (Ent.trans (Ent.take (Q := (aa (am tp [Mp x.1, .slice x.2.1.1 (aA T1.q).length x.2.1.2, I m, I wt, I T1.now, I T1.dr] 96) (aa (eK x.1 fv x.2.2.2) (aa (Ow 122 10 (.slice x.2.1.1 (aA T1.q).length x.2.1.2) (aA T1.q).length (aP (aA T1.q))) (aa (dO x.2.2.1) (F))))))) (TabP.fold x.1 x.2.1 x.2.2.1 x.2.2.2 hx1 hx2))
   ·refine sk<|js<|av ((aa (am b3 [I pk.id, .bool pk.more, I pk.off, I pk.ttl, I pk.proto, U8 pk.s0, U8 pk.s1, U8 pk.s2, U8 pk.s3, U8 pk.d0, U8 pk.d1, U8 pk.d2, U8 pk.d3, .string pk.data] 39) (aa (am b5 [U8 (ay pk).s0, U8 (ay pk).s1, U8 (ay pk).s2, U8 (ay pk).s3, U8 (ay pk).d0, U8 (ay pk).d1, U8 (ay pk).d2, U8 (ay pk).d3, I (ay pk).proto, I (ay pk).id] 122) (am tp [Mp x.1, .slice x.2.1.1 (aA T1.q).length x.2.1.2, I m, I wt, I T1.now, I T1.dr] 96)))) ((aa (am b3 [I pk.id, .bool pk.more, I pk.off, I pk.ttl, I pk.proto, U8 pk.s0, U8 pk.s1, U8 pk.s2, U8 pk.s3, U8 pk.d0, U8 pk.d1, U8 pk.d2, U8 pk.d3, .string pk.data] 39) (aa (am b5 [U8 (ay pk).s0, U8 (ay pk).s1, U8 (ay pk).s2, U8 (ay pk).s3, U8 (ay pk).d0, U8 (ay pk).d1, U8 (ay pk).d2, U8 (ay pk).d3, I (ay pk).proto, I (ay pk).id] 122) (am tp [Mp x.1, .slice x.2.1.1 (aA T1.q).length x.2.1.2, I m, I wt, I T1.now, I T1.dr] 96)))) [] ae<|pe 0 r r<|pe 1 r r<|ps 2 r (aj r)<|dv 3 r (by kernel_rfl) (ar r (aC r)) r<|dv 4 r (by kernel_rfl) (ax r) r<|pe 5 r r<|pe 6 r r<|ps 7 r (aj r)<|dv 8 r (by kernel_rfl) (ar r (aC r)) r<|ps 9 r (aj r)<|dv 10 r (by kernel_rfl) (ar r (aC r)) r<|pn 11 r (rE r (by unfold maxLen; omega) r) fun y45 _=>ps 12 r (af r) ?_
    refine pn 13 r (aV r r) fun b47 _=>pn 14 r (oG (k := bS (ay pk)) (f := x.2.2.2) r r r (rk _)) fun _ _=>dn<|kt<|js<|av (am b5 [U8 (ay pk).s0, U8 (ay pk).s1, U8 (ay pk).s2, U8 (ay pk).s3, U8 (ay pk).d0, U8 (ay pk).d1, U8 (ay pk).d2, U8 (ay pk).d3, I (ay pk).proto, I (ay pk).id] 122) ((aa (am b5 [U8 (ay pk).s0, U8 (ay pk).s1, U8 (ay pk).s2, U8 (ay pk).s3, U8 (ay pk).d0, U8 (ay pk).d1, U8 (ay pk).d2, U8 (ay pk).d3, I (ay pk).proto, I (ay pk).id] 122) (am tp [Mp x.1, .slice x.2.1.1 (aA T1.q).length x.2.1.2, I m, I wt, I T1.now, I T1.dr] 96))) [10] ae<|pe 0 r r<|pe 1 r r<|pe 2 r r<|ps 3 r (aj r)<|dv 4 r (by kernel_rfl) (ar r (aC r)) r<|dv 5 r (by kernel_rfl) (ax r) r<|pn 6 r (aq (m := 10) r r (by omega) (by omega) r) fun b54 _=>pn 7 r (cO (m := 10) (B := 24) r r (Src.lit) r (by omega) r (by simp [Value.oneCell']) (by unfold maxLen; omega) (by omega) r) fun y55 _=>pe 8 r r<|ps 9 r (aj r)<|jv 10 r r (by kernel_rfl) (dU r r r) fun _ _=>dn<|kt<|aE r<|jr ?_
    have e := uJ (m := m) (T := T) hs0 (by rw [hT1]; exact h3)
    rw [e, hT1]
    have e1 : aP (aA T1.q) ++ [U8 (ay pk).s0, U8 (ay pk).s1, U8 (ay pk).s2, U8 (ay pk).s3, U8 (ay pk).d0, U8 (ay pk).d1, U8 (ay pk).d2, U8 (ay pk).d3, I (ay pk).proto, I (ay pk).id] = aP (aA (T1.q ++ [(⟨(ay pk), T1.now, pk.data⟩ : Bg)])) := by unfold aA aP; rw [List.map_append, List.flatMap_append]; rfl
    have e2 : (aA T1.q).length + 1 = (aA (T1.q ++ [(⟨(ay pk), T1.now, pk.data⟩ : Bg)])).length := by rw [eY, eY]; simp
    rw [e1, e2]
    exact aD rfl rfl () trivial rfl (Ent.trans (Ent.take (Q := (aa (am b47 [I T1.now, .slice y45.1 pk.data.size y45.2] 127) (aa (OwnB 5 y45 pk.data) (aa (am tp [Mp x.1, .slice y55.1 (aA (T1.q ++ [(⟨(ay pk), T1.now, pk.data⟩ : Bg)])).length y55.2, I m, I wt, I T1.now, I T1.dr] 96) (aa (eK x.1 fv (ek x.2.2.2 (bS (ay pk)) (Pt b47 0))) (aa (Ow 122 10 (.slice y55.1 (aA (T1.q ++ [(⟨(ay pk), T1.now, pk.data⟩ : Bg)])).length y55.2) (aA (T1.q ++ [(⟨(ay pk), T1.now, pk.data⟩ : Bg)])).length (aP (aA (T1.q ++ [(⟨(ay pk), T1.now, pk.data⟩ : Bg)])))) (aa (dO x.2.2.1) (F))))))))) (Ent.trans (begP.fold (e := ((⟨(ay pk), T1.now, pk.data⟩ : Bg), b47)) y45) (Ent.trans (Ent.of (Q := (aa (am tp [Mp x.1, .slice y55.1 (aA (T1.q ++ [(⟨(ay pk), T1.now, pk.data⟩ : Bg)])).length y55.2, I m, I wt, I T1.now, I T1.dr] 96) (aa (eK x.1 fv (ek x.2.2.2 (bS (ay pk)) (Pt b47 0))) (aa (Ow 122 10 (.slice y55.1 (aA (T1.q ++ [(⟨(ay pk), T1.now, pk.data⟩ : Bg)])).length y55.2) (aA (T1.q ++ [(⟨(ay pk), T1.now, pk.data⟩ : Bg)])).length (aP (aA (T1.q ++ [(⟨(ay pk), T1.now, pk.data⟩ : Bg)])))) (aa (dO (x.2.2.1 ++ [((⟨(ay pk), T1.now, pk.data⟩ : Bg), b47)])) (F)))))) (by rw [iR, xT]; ac_rfl)) (TabP.fold (T := ⟨(T1.q ++ [(⟨(ay pk), T1.now, pk.data⟩ : Bg)]), T1.now, T1.dr⟩) x.1 y55 (x.2.2.1 ++ [((⟨(ay pk), T1.now, pk.data⟩ : Bg), b47)]) _ (by rw [List.map_append, hx1]; rfl) (hx2.put (⟨(ay pk), T1.now, pk.data⟩ : Bg) b47 hnew)))))
end
section
variable {k : Ky} {b : Bg} {l1 l2 l : List (Bg × Nat)} {n : Nat} {d : ByteArray}
def upd (q : List Bg) (k : Ky) (d : ByteArray) : List Bg := q.map fun b => if b.k = k then ⟨b.k, b.t, b.data ++ d⟩ else b
theorem tl (q : List Bg) (k : Ky) (d : ByteArray) : aA (upd q k d) = aA q := by
 unfold aA upd
 rw [List.map_map]
 refine List.map_congr_left fun b _ => ?_
 show (if b.k = k then (⟨b.k, b.t, b.data ++ d⟩ : Bg) else b).k = b.k
 split <;> rfl
def pj (q : List Bg) (k : Ky) : Option Bg := q.find? fun b => decide (b.k = k)
theorem mid {es : List (Bg × Nat)} {q : List Bg} (h : es.map (·.1) = q) (hf : pj q k = some b) : ∃ l1 n l2, es = l1 ++ (b, n) :: l2 /\ b.k = k /\ ∀ e ∈ l1, e.1.k ≠ k := by
 unfold pj at hf
 rw [<- h, List.find?_map] at hf
 cases hg : es.find? ((fun b : Bg => decide (b.k = k)) ∘ fun e : Bg × Nat => e.1) with
 | none => rw [hg] at hf; cases hf
 | some e =>
  rw [hg] at hf
  simp only [Option.map_some, Option.some.injEq] at hf
  obtain ⟨h1, l1, l2, h2, h3⟩ := List.find?_eq_some_iff_append.1 hg
  subst hf
  refine ⟨l1, e.2, l2, h2, by simpa using h1, fun a ha => ?_⟩
  have := h3 a ha
  simpa using this
theorem uy (hk : b.k = k) (h1 : ∀ e ∈ l1, e.1.k ≠ k) : jL (l1 ++ (b, n) :: l2) k = some (ad n 0) := by
 unfold jL
 rw [List.find?_append]
 have : (l1.find? fun e => decide (e.1.k = k)) = none := by
  rw [List.find?_eq_none]
  intro a ha
  simp [h1 a ha]
 rw [this]
 simp [List.find?_cons, hk]
theorem rU (hk : b.k = k) (hn : (aA ((l1 ++ (b, n) :: l2).map (·.1))).Nodup) : ∀ e ∈ l2, e.1.k ≠ k := by
 intro e he hek
 unfold aA at hn
 rw [List.map_append, List.map_append, List.map_cons, List.map_cons] at hn
 have h2 := (List.nodup_append.1 hn).2.1
 have h3 := (List.nodup_cons.1 h2).1
 exact h3 (by rw [hk, <- hek]; exact List.mem_map.2 ⟨e.1, List.mem_map.2 ⟨e, he, rfl⟩, rfl⟩)
theorem uD (h : ∀ e ∈ l, e.1.k ≠ k) : (l.filter fun e => !decide (e.1.k = k)) = l := by
 rw [List.filter_eq_self]
 intro a ha
 simp [h a ha]
theorem rV (hk : b.k = k) (h1 : ∀ e ∈ l1, e.1.k ≠ k) (h2 : ∀ e ∈ l2, e.1.k ≠ k) : ((l1 ++ (b, n) :: l2).filter fun e => !decide (e.1.k = k)) = l1 ++ l2 := by
 rw [List.filter_append, uD h1, List.filter_cons, if_neg (by simp [hk]), uD h2]
theorem mj (h : ∀ e ∈ l, e.1.k ≠ k) : upd (l.map (·.1)) k d = l.map (·.1) := by
 unfold upd
 rw [List.map_map]
 refine List.map_congr_left fun a ha => ?_
 show (if a.1.k = k then (⟨a.1.k, a.1.t, a.1.data ++ d⟩ : Bg) else a.1) = a.1
 rw [if_neg (h a ha)]
theorem zS (hk : b.k = k) (h1 : ∀ e ∈ l1, e.1.k ≠ k) (h2 : ∀ e ∈ l2, e.1.k ≠ k) : upd ((l1 ++ (b, n) :: l2).map (·.1)) k d = (l1 ++ ((⟨b.k, b.t, b.data ++ d⟩ : Bg), n) :: l2).map (·.1) := by
 rw [List.map_append, List.map_append, List.map_cons, List.map_cons, <- mj (d := d) h1, <- mj (d := d) h2]
 have e : upd (upd (l1.map (·.1)) k d ++ b :: upd (l2.map (·.1)) k d) k d = upd (upd (l1.map (·.1)) k d) k d ++ ((if b.k = k then (⟨b.k, b.t, b.data ++ d⟩ : Bg) else b) :: upd (upd (l2.map (·.1)) k d) k d) := by
  show List.map _ (_ ++ _) = _
  rw [List.map_append, List.map_cons]
  rfl
 rw [e, if_pos hk, mj h1, mj h2, mj h1, mj h2]
theorem MapIs.upd {b' : Bg} {f : List Value -> Option Value} (h : MapIs (l1 ++ (b, n) :: l2) f) (hk : b'.k = b.k) : MapIs (l1 ++ (b', n) :: l2) f := by
 refine ⟨?_, fun k' => ?_⟩
 ·have e : aA ((l1 ++ (b', n) :: l2).map (·.1)) = aA ((l1 ++ (b, n) :: l2).map (·.1)) := by
   unfold aA
   simp [hk]
  rw [e]; exact h.nd
 ·rw [h.at_, List.find?_append, List.find?_append, List.find?_cons, List.find?_cons]
  rw [show ((b', n) : Bg × Nat).1.k = ((b, n) : Bg × Nat).1.k from hk]
  cases l1.find? fun e => decide (e.1.k = k') with
  | some e => rfl
  | none =>
   show Option.map _ (match decide (((b, n) : Bg × Nat).1.k = k') with | true => some (b, n) | false => _) = _
   cases decide (((b, n) : Bg × Nat).1.k = k') <;> rfl
theorem v7 (tp : Nat) (m wt : Int) (T : TS) (now : Int) (pk : Pk) (h : pL T.now now = 0) (n : Nat) (hT : TOk n T) (hn : n <= 1000000) (hwt : 0 <= wt /\ wt <= 1125899906842624) (hd : pk.data.size <= 140737488351232) (ho : pk.off = 0) (hm : pk.more = false) : FSpec prog 15 #[Pt tp 0, I now, .agg [I pk.id, .bool pk.more, I pk.off, I pk.ttl, I pk.proto, U8 pk.s0, U8 pk.s1, U8 pk.s2, U8 pk.s3, U8 pk.d0, U8 pk.d1, U8 pk.d2, U8 pk.d3, .string pk.data].toArray] (TabP tp m wt T) (fun _ : Unit => True) (fun _ => .tuple #[.agg [I pk.id, .bool pk.more, I pk.off, I pk.ttl, I pk.proto, U8 pk.s0, U8 pk.s1, U8 pk.s2, U8 pk.s3, U8 pk.d0, U8 pk.d1, U8 pk.d2, U8 pk.d3, .string pk.data].toArray, Tt, I 0]) (fun _ => TabP tp m wt (T.pass wt now)) := by
 refine en func15 r fun _ F=>sr<|lx r (aV (l := [I pk.id, .bool pk.more, I pk.off, I pk.ttl, I pk.proto, U8 pk.s0, U8 pk.s1, U8 pk.s2, U8 pk.s3, U8 pk.d0, U8 pk.d1, U8 pk.d2, U8 pk.d3, .string pk.data]) r r) fun b5 _=>al r fun b6=>eb r<|nj<|sb r<|cy (l9 tp m wt T now h n hT hn hwt) r fun _=>an r<|sa r<|bJ r<|nf r<|sk<|js<|jb<|sr<|fz r<|ld r r<|lv ((cv r r).bool_t ho) r<|ea r<|go r<|fz r<|go r<|lv ((ar r (aC r)).as (v' := Ff) (by rw [hm])) r<|go r<|lv (fF r) r<|eb r<|nt r<|sr<|ls r<|so r r<|eb r<|nk<|jr<|kq<|kd ?_
 exact fK rfl rfl rfl rfl rfl () trivial rfl Ent.take
theorem v8 (tp : Nat) (m wt : Int) (T : TS) (now : Int) (pk : Pk) (h : pL T.now now = 0) (n : Nat) (hT : TOk n T) (hn : n <= 1000000) (hwt : 0 <= wt /\ wt <= 1125899906842624) (hd : pk.data.size <= 140737488351232) (ho : pk.off = 0) (hm : pk.more = true) (hT1 : TOk n (T.pass wt now)) : FSpec prog 15 #[Pt tp 0, I now, .agg [I pk.id, .bool pk.more, I pk.off, I pk.ttl, I pk.proto, U8 pk.s0, U8 pk.s1, U8 pk.s2, U8 pk.s3, U8 pk.d0, U8 pk.d1, U8 pk.d2, U8 pk.d3, .string pk.data].toArray] (TabP tp m wt T) (fun _ : Unit => True) (fun _ => .tuple #[.agg [I 0, Ff, I 0, I 0, I 0, U8 0, U8 0, U8 0, U8 0, U8 0, U8 0, U8 0, U8 0, Z].toArray, Ff, I ((T.pass wt now).begn m pk).1]) (fun _ => TabP tp m wt ((T.pass wt now).begn m pk).2) := by
 refine en func15 r fun _ F=>sr<|lx r (aV (l := [I pk.id, .bool pk.more, I pk.off, I pk.ttl, I pk.proto, U8 pk.s0, U8 pk.s1, U8 pk.s2, U8 pk.s3, U8 pk.d0, U8 pk.d1, U8 pk.d2, U8 pk.d3, .string pk.data]) r r) fun b5 _=>al r fun b6=>eb r<|nj<|sb r<|cy (l9 tp m wt T now h n hT hn hwt) r fun _=>an r<|sa r<|bJ r<|nf r<|sk<|js<|jb<|sr<|fz r<|ld r r<|lv ((cv r r).bool_t ho) r<|ea r<|go r<|fz r<|go r<|lv ((ar r (aC r)).as (v' := Tt) (by rw [hm])) r<|go r<|lv (fF r) r<|bf r<|sr<|fz r<|ld r r<|lv ((cv r r).bool_t ho) r<|an r<|ct r<|sr<|lv (af r) r<|ea r<|ls r<|cy (ic tp m wt (T.pass wt now) pk n hT1 hn hd) r fun _=>so r r<|eb r<|nk<|jr<|kq<|kd ?_
 exact fK rfl rfl rfl rfl rfl () trivial rfl Ent.take
abbrev _root_.Go.qq39 (a : TS) (b c : Int) := aA (a.pass b c).q
set_option maxHeartbeats 800000 in
theorem yv (tp : Nat) (m wt : Int) (T : TS) (now : Int) (pk : Pk) (h : pL T.now now = 0) (n : Nat) (hT : TOk n T) (hn : n <= 1000000) (hwt : 0 <= wt /\ wt <= 1125899906842624) (hd : pk.data.size <= 140737488351232) (ho : pk.off ≠ 0) (b : Bg) (hf : pj (T.pass wt now).q (ay pk) = some b) (hT1 : TOk n (T.pass wt now)) (hs : gV pk b.data.size = 0) (hm : pk.more = true) : FSpec prog 15 #[Pt tp 0, I now, .agg [I pk.id, .bool pk.more, I pk.off, I pk.ttl, I pk.proto, U8 pk.s0, U8 pk.s1, U8 pk.s2, U8 pk.s3, U8 pk.d0, U8 pk.d1, U8 pk.d2, U8 pk.d3, .string pk.data].toArray] (TabP tp m wt T) (fun _ : Unit => True) (fun _ => .tuple #[.agg [I 0, Ff, I 0, I 0, I 0, U8 0, U8 0, U8 0, U8 0, U8 0, U8 0, U8 0, U8 0, Z].toArray, Ff, I 0]) (fun _ => TabP tp m wt ⟨(upd (T.pass wt now).q (ay pk) pk.data), (T.pass wt now).now, (T.pass wt now).dr⟩) := by
 have hsz := nA hs
 refine en func15 rfl fun _ F=>sr<|lx rfl (aV (l := [I pk.id, .bool pk.more, I pk.off, I pk.ttl, I pk.proto, U8 pk.s0, U8 pk.s1, U8 pk.s2, U8 pk.s3, U8 pk.d0, U8 pk.d1, U8 pk.d2, U8 pk.d3, .string pk.data]) rfl rfl) fun b5 _=>al rfl fun b6=>eb rfl<|nj<|sb rfl<|cy (l9 tp m wt T now h n hT hn hwt) rfl fun _=>an rfl<|sa rfl<|bJ rfl<|nf rfl<|sk<|js<|jb<|sr<|fz rfl<|ld rfl rfl<|lv ((cv rfl rfl).bool_f ho) rfl<|ea rfl<|gk rfl<|gk rfl<|gk rfl<|bf rfl<|sr<|fz rfl<|ld rfl rfl<|lv ((cv rfl rfl).bool_f ho) rfl<|an rfl<|cf rfl<|cY<|sr<|ls rfl<|cy (mA pk) rfl fun _=>cj<|al rfl fun b10=>lx rfl (dU rfl rfl rfl) fun _ _=>nj<|dY (aa (TabP tp m wt (T.pass wt now)) (aa (am b10 [U8 (ay pk).s0, U8 (ay pk).s1, U8 (ay pk).s2, U8 (ay pk).s3, U8 (ay pk).d0, U8 (ay pk).d1, U8 (ay pk).d2, U8 (ay pk).d3, I (ay pk).proto, I (ay pk).id] 122) (aa (am b6 [I 0, Ff, I 0, I 0, I 0, U8 0, U8 0, U8 0, U8 0, U8 0, U8 0, U8 0, U8 0, Z] 39) (aa (am b5 [I pk.id, .bool pk.more, I pk.off, I pk.ttl, I pk.proto, U8 pk.s0, U8 pk.s1, U8 pk.s2, U8 pk.s3, U8 pk.d0, U8 pk.d1, U8 pk.d2, U8 pk.d3, .string pk.data] 39) (F))))) (by ac_rfl)<|pC _ _ (fun w hs => iT hs) fun x hx => ?_
 obtain ⟨⟨hx1, hx2⟩, hx3⟩ := hx
 obtain ⟨r, a, es, f⟩ := x
 dsimp only at hx1 hx2 hx3
 obtain ⟨l1, nb, l2, hes, hbk, hl1⟩ := mid hx1 hf
 subst hes
 have hl2 := rU hbk hx2.nd
 refine dY (aa (begP (b, nb)) (aa (am tp [Mp r, .slice a.1 (qq39 T wt now).length a.2, I m, I wt, I (T.pass wt now).now, I (T.pass wt now).dr] 96) (aa (eK r fv f) (aa (Ow 122 10 (.slice a.1 (qq39 T wt now).length a.2) (qq39 T wt now).length (aP (qq39 T wt now))) (aa (dO l1) (aa (dO l2) (aa (am b10 [U8 (ay pk).s0, U8 (ay pk).s1, U8 (ay pk).s2, U8 (ay pk).s3, U8 (ay pk).d0, U8 (ay pk).d1, U8 (ay pk).d2, U8 (ay pk).d3, I (ay pk).proto, I (ay pk).id] 122) (aa (am b6 [I 0, Ff, I 0, I 0, I 0, U8 0, U8 0, U8 0, U8 0, U8 0, U8 0, U8 0, U8 0, Z] 39) (aa (am b5 [I pk.id, .bool pk.more, I pk.off, I pk.ttl, I pk.proto, U8 pk.s0, U8 pk.s1, U8 pk.s2, U8 pk.s3, U8 pk.d0, U8 pk.d1, U8 pk.d2, U8 pk.d3, .string pk.data] 39) (F)))))))))) (by show (aa (_) (aa (_) (aa (_) (aa (dO (l1 ++ (b, nb) :: l2)) (aa (_) (aa (_) (aa (_) (F)))))))) = _; rw [iR]; show (aa (_) (aa (_) (aa (_) (aa ((aa (dO l1) ((aa (begP (b, nb)) (dO l2))))) (aa (_) (aa (_) (aa (_) (F)))))))) = _; ac_rfl)<|gh fun u =>dY (aa (am nb [I b.t, .slice u.1 (b.data).size u.2] 127) (aa (OwnB 5 u b.data) (aa (am tp [Mp r, .slice a.1 (qq39 T wt now).length a.2, I m, I wt, I (T.pass wt now).now, I (T.pass wt now).dr] 96) (aa (eK r fv f) (aa (Ow 122 10 (.slice a.1 (qq39 T wt now).length a.2) (qq39 T wt now).length (aP (qq39 T wt now))) (aa (dO l1) (aa (dO l2) (aa (am b10 [U8 (ay pk).s0, U8 (ay pk).s1, U8 (ay pk).s2, U8 (ay pk).s3, U8 (ay pk).d0, U8 (ay pk).d1, U8 (ay pk).d2, U8 (ay pk).d3, I (ay pk).proto, I (ay pk).id] 122) (aa (am b6 [I 0, Ff, I 0, I 0, I 0, U8 0, U8 0, U8 0, U8 0, U8 0, U8 0, U8 0, U8 0, Z] 39) (aa (am b5 [I pk.id, .bool pk.more, I pk.off, I pk.ttl, I pk.proto, U8 pk.s0, U8 pk.s1, U8 pk.s2, U8 pk.s3, U8 pk.d0, U8 pk.d1, U8 pk.d2, U8 pk.d3, .string pk.data] 39) (F))))))))))) (ak _ _ _) ?_
 have hbm : b ∈ (T.pass wt now).q := by rw [<- hx1]; exact List.mem_map.2 ⟨(b, nb), List.mem_append_right _ (List.mem_cons_self ..), rfl⟩
 have hbs := (hT1.bg b hbm).2
 have ht2 := hT1.dr
 have ht3 := hT1.n
 have hkl := eY (T.pass wt now).q
 have hpn : jL (l1 ++ (b, nb) :: l2) (ay pk) = some (ad nb 0) := uy hbk hl1
 refine dM ae<|qb rfl<|qz rfl<|ql rfl rfl<|qv (ax rfl) rfl<|qv (((i8 (k := bS (ay pk)) (f := f) rfl rfl (rk _)).as (v' := .pointer (jL (l1 ++ (b, nb) :: l2) (ay pk))) (hx2.ptr _)).as (v' := Pt nb 0) (congrArg Value.pointer hpn)) rfl<|qa rfl<|qn<|kt<|js<|sa rfl<|lv (bj rfl rfl) rfl<|nf rfl<|sk<|js<|js<|dM ae<|qv (ax rfl) rfl<|qb rfl<|qz rfl<|ql rfl rfl<|qv (bC rfl) rfl<|dy (kJ pk b.data.size (by omega) (by omega)) rfl rfl (fun _ _ => rfl) (fun _ _ => ah _) rfl<|qa rfl<|qn<|kt<|sa rfl<|lv ((bs rfl rfl).bool_f (fun n => n hs)) rfl<|nf rfl<|sk<|js<|av (am b5 [I pk.id, .bool pk.more, I pk.off, I pk.ttl, I pk.proto, U8 pk.s0, U8 pk.s1, U8 pk.s2, U8 pk.s3, U8 pk.d0, U8 pk.d1, U8 pk.d2, U8 pk.d3, .string pk.data] 39) ((aa (am b5 [I pk.id, .bool pk.more, I pk.off, I pk.ttl, I pk.proto, U8 pk.s0, U8 pk.s1, U8 pk.s2, U8 pk.s3, U8 pk.d0, U8 pk.d1, U8 pk.d2, U8 pk.d3, .string pk.data] 39) (am nb [I b.t, .slice u.1 (b.data).size u.2] 127))) [10] ae<|pe 0 rfl rfl<|pe 1 rfl rfl<|pe 2 rfl rfl<|ps 3 rfl (aj rfl)<|dv 4 rfl (by kernel_rfl) (ar rfl (aC rfl)) rfl<|ps 5 rfl (aj rfl)<|dv 6 rfl (by kernel_rfl) (ar rfl (aC rfl)) rfl<|pn 7 rfl (mS rfl rfl rfl rfl (by unfold maxLen; omega) (by omega) rfl) fun y70 _=>pe 8 rfl rfl<|ps 9 rfl (aj rfl)<|jv 10 rfl rfl (by kernel_rfl) (dU rfl rfl rfl) fun _ _=>dn<|kt<|js<|sr<|fz rfl<|lv ((ar rfl (aC rfl)).as (v' := Tt) (by rw [hm])) rfl<|nt rfl<|sr<|lv (af rfl) rfl<|lx rfl (dU rfl rfl rfl) fun _ _=>eb rfl<|nk<|jr<|kd ?_
 have e1 : upd (T.pass wt now).q (ay pk) pk.data = (l1 ++ ((⟨b.k, b.t, b.data ++ pk.data⟩ : Bg), nb) :: l2).map (·.1) := by rw [<- hx1]; exact zS hbk hl1 hl2
 have e2 := tl (T.pass wt now).q (ay pk) pk.data
 exact fK rfl rfl rfl rfl rfl () trivial rfl (Ent.trans (Ent.take (Q := (aa (am nb [I b.t, .slice y70.1 ((b.data ++ pk.data)).size y70.2] 127) (aa (OwnB 5 y70 (b.data ++ pk.data)) (aa (am tp [Mp r, .slice a.1 (qq39 T wt now).length a.2, I m, I wt, I (T.pass wt now).now, I (T.pass wt now).dr] 96) (aa (eK r fv f) (aa (Ow 122 10 (.slice a.1 (qq39 T wt now).length a.2) (qq39 T wt now).length (aP (qq39 T wt now))) (aa (dO l1) (aa (dO l2) (F)))))))))) (Ent.trans (begP.fold (e := ((⟨b.k, b.t, b.data ++ pk.data⟩ : Bg), nb)) y70) (Ent.trans (Ent.of (Q := (aa (am tp [Mp r, .slice a.1 (aA (upd (T.pass wt now).q (ay pk) pk.data)).length a.2, I m, I wt, I (T.pass wt now).now, I (T.pass wt now).dr] 96) (aa (eK r fv f) (aa (Ow 122 10 (.slice a.1 (aA (upd (T.pass wt now).q (ay pk) pk.data)).length a.2) (aA (upd (T.pass wt now).q (ay pk) pk.data)).length (aP (aA (upd (T.pass wt now).q (ay pk) pk.data)))) (aa (dO (l1 ++ ((⟨b.k, b.t, b.data ++ pk.data⟩ : Bg), nb) :: l2)) (F)))))) (by rw [iR, e2]; show _ = (aa (_) (aa (_) (aa (_) (aa ((aa (dO l1) ((aa (begP ((⟨b.k, b.t, b.data ++ pk.data⟩ : Bg), nb)) (dO l2))))) (F))))); ac_rfl)) (TabP.fold (T := ⟨(upd (T.pass wt now).q (ay pk) pk.data), (T.pass wt now).now, (T.pass wt now).dr⟩) r a (l1 ++ ((⟨b.k, b.t, b.data ++ pk.data⟩ : Bg), nb) :: l2) f e1.symm (hx2.upd rfl)))))
set_option maxHeartbeats 800000 in
theorem yw (tp : Nat) (m wt : Int) (T : TS) (now : Int) (pk : Pk) (h : pL T.now now = 0) (n : Nat) (hT : TOk n T) (hn : n <= 1000000) (hwt : 0 <= wt /\ wt <= 1125899906842624) (hd : pk.data.size <= 140737488351232) (ho : pk.off ≠ 0) (b : Bg) (hf : pj (T.pass wt now).q (ay pk) = some b) (hT1 : TOk n (T.pass wt now)) (hs : gV pk b.data.size = 0) (hm : pk.more = false) : FSpec prog 15 #[Pt tp 0, I now, .agg [I pk.id, .bool pk.more, I pk.off, I pk.ttl, I pk.proto, U8 pk.s0, U8 pk.s1, U8 pk.s2, U8 pk.s3, U8 pk.d0, U8 pk.d1, U8 pk.d2, U8 pk.d3, .string pk.data].toArray] (TabP tp m wt T) (fun _ : Unit => True) (fun _ => .tuple #[.agg [I pk.id, .bool pk.more, I 0, I pk.ttl, I pk.proto, U8 pk.s0, U8 pk.s1, U8 pk.s2, U8 pk.s3, U8 pk.d0, U8 pk.d1, U8 pk.d2, U8 pk.d3, .string (b.data ++ pk.data)].toArray, Tt, I 0]) (fun _ => TabP tp m wt (⟨(mM (T.pass wt now).q (ay pk)), (T.pass wt now).now, (T.pass wt now).dr⟩ : TS)) := by
 have hsz := nA hs
 refine en func15 rfl fun _ F=>sr<|lx rfl (aV (l := [I pk.id, .bool pk.more, I pk.off, I pk.ttl, I pk.proto, U8 pk.s0, U8 pk.s1, U8 pk.s2, U8 pk.s3, U8 pk.d0, U8 pk.d1, U8 pk.d2, U8 pk.d3, .string pk.data]) rfl rfl) fun b5 _=>al rfl fun b6=>eb rfl<|nj<|sb rfl<|cy (l9 tp m wt T now h n hT hn hwt) rfl fun _=>an rfl<|sa rfl<|bJ rfl<|nf rfl<|sk<|js<|jb<|sr<|fz rfl<|ld rfl rfl<|lv ((cv rfl rfl).bool_f ho) rfl<|ea rfl<|gk rfl<|gk rfl<|gk rfl<|bf rfl<|sr<|fz rfl<|ld rfl rfl<|lv ((cv rfl rfl).bool_f ho) rfl<|an rfl<|cf rfl<|cY<|sr<|ls rfl<|cy (mA pk) rfl fun _=>cj<|al rfl fun b10=>lx rfl (dU rfl rfl rfl) fun _ _=>nj<|dY (aa (TabP tp m wt (T.pass wt now)) (aa (am b10 [U8 (ay pk).s0, U8 (ay pk).s1, U8 (ay pk).s2, U8 (ay pk).s3, U8 (ay pk).d0, U8 (ay pk).d1, U8 (ay pk).d2, U8 (ay pk).d3, I (ay pk).proto, I (ay pk).id] 122) (aa (am b6 [I 0, Ff, I 0, I 0, I 0, U8 0, U8 0, U8 0, U8 0, U8 0, U8 0, U8 0, U8 0, Z] 39) (aa (am b5 [I pk.id, .bool pk.more, I pk.off, I pk.ttl, I pk.proto, U8 pk.s0, U8 pk.s1, U8 pk.s2, U8 pk.s3, U8 pk.d0, U8 pk.d1, U8 pk.d2, U8 pk.d3, .string pk.data] 39) (F))))) (by ac_rfl)<|pC _ _ (fun w hs => iT hs) fun x hx => ?_
 obtain ⟨⟨hx1, hx2⟩, hx3⟩ := hx
 obtain ⟨r, a, es, f⟩ := x
 dsimp only at hx1 hx2 hx3
 obtain ⟨l1, nb, l2, hes, hbk, hl1⟩ := mid hx1 hf
 subst hes
 have hl2 := rU hbk hx2.nd
 refine dY (aa (begP (b, nb)) (aa (am tp [Mp r, .slice a.1 (aA (T.pass wt now).q).length a.2, I m, I wt, I (T.pass wt now).now, I (T.pass wt now).dr] 96) (aa (eK r fv f) (aa (Ow 122 10 (.slice a.1 (aA (T.pass wt now).q).length a.2) (aA (T.pass wt now).q).length (aP (aA (T.pass wt now).q))) (aa (dO l1) (aa (dO l2) (aa (am b10 [U8 (ay pk).s0, U8 (ay pk).s1, U8 (ay pk).s2, U8 (ay pk).s3, U8 (ay pk).d0, U8 (ay pk).d1, U8 (ay pk).d2, U8 (ay pk).d3, I (ay pk).proto, I (ay pk).id] 122) (aa (am b6 [I 0, Ff, I 0, I 0, I 0, U8 0, U8 0, U8 0, U8 0, U8 0, U8 0, U8 0, U8 0, Z] 39) (aa (am b5 [I pk.id, .bool pk.more, I pk.off, I pk.ttl, I pk.proto, U8 pk.s0, U8 pk.s1, U8 pk.s2, U8 pk.s3, U8 pk.d0, U8 pk.d1, U8 pk.d2, U8 pk.d3, .string pk.data] 39) (F)))))))))) (by show (aa (_) (aa (_) (aa (_) (aa (dO (l1 ++ (b, nb) :: l2)) (aa (_) (aa (_) (aa (_) (F)))))))) = _; rw [iR]; show (aa (_) (aa (_) (aa (_) (aa ((aa (dO l1) ((aa (begP (b, nb)) (dO l2))))) (aa (_) (aa (_) (aa (_) (F)))))))) = _; ac_rfl)<|gh fun u =>dY (aa (am nb [I b.t, .slice u.1 (b.data).size u.2] 127) (aa (OwnB 5 u b.data) (aa (am tp [Mp r, .slice a.1 (aA (T.pass wt now).q).length a.2, I m, I wt, I (T.pass wt now).now, I (T.pass wt now).dr] 96) (aa (eK r fv f) (aa (Ow 122 10 (.slice a.1 (aA (T.pass wt now).q).length a.2) (aA (T.pass wt now).q).length (aP (aA (T.pass wt now).q))) (aa (dO l1) (aa (dO l2) (aa (am b10 [U8 (ay pk).s0, U8 (ay pk).s1, U8 (ay pk).s2, U8 (ay pk).s3, U8 (ay pk).d0, U8 (ay pk).d1, U8 (ay pk).d2, U8 (ay pk).d3, I (ay pk).proto, I (ay pk).id] 122) (aa (am b6 [I 0, Ff, I 0, I 0, I 0, U8 0, U8 0, U8 0, U8 0, U8 0, U8 0, U8 0, U8 0, Z] 39) (aa (am b5 [I pk.id, .bool pk.more, I pk.off, I pk.ttl, I pk.proto, U8 pk.s0, U8 pk.s1, U8 pk.s2, U8 pk.s3, U8 pk.d0, U8 pk.d1, U8 pk.d2, U8 pk.d3, .string pk.data] 39) (F))))))))))) (ak _ _ _) ?_
 have hbm : b ∈ (T.pass wt now).q := by rw [<- hx1]; exact List.mem_map.2 ⟨(b, nb), List.mem_append_right _ (List.mem_cons_self ..), rfl⟩
 have hbs := (hT1.bg b hbm).2
 have ht2 := hT1.dr
 have ht3 := hT1.n
 have hkl := eY (T.pass wt now).q
 have hpn : jL (l1 ++ (b, nb) :: l2) (ay pk) = some (ad nb 0) := uy hbk hl1
 refine dM ae<|qb rfl<|qz rfl<|ql rfl rfl<|qv (ax rfl) rfl<|qv (((i8 (k := bS (ay pk)) (f := f) rfl rfl (rk _)).as (v' := .pointer (jL (l1 ++ (b, nb) :: l2) (ay pk))) (hx2.ptr _)).as (v' := Pt nb 0) (congrArg Value.pointer hpn)) rfl<|qa rfl<|qn<|kt<|js<|sa rfl<|lv (bj rfl rfl) rfl<|nf rfl<|sk<|js<|js<|dM ae<|qv (ax rfl) rfl<|qb rfl<|qz rfl<|ql rfl rfl<|qv (bC rfl) rfl<|dy (kJ pk b.data.size (by omega) (by omega)) rfl rfl (fun _ _ => rfl) (fun _ _ => ah _) rfl<|qa rfl<|qn<|kt<|sa rfl<|lv ((bs rfl rfl).bool_f (fun n => n hs)) rfl<|nf rfl<|sk<|js<|av (am b5 [I pk.id, .bool pk.more, I pk.off, I pk.ttl, I pk.proto, U8 pk.s0, U8 pk.s1, U8 pk.s2, U8 pk.s3, U8 pk.d0, U8 pk.d1, U8 pk.d2, U8 pk.d3, .string pk.data] 39) ((aa (am b5 [I pk.id, .bool pk.more, I pk.off, I pk.ttl, I pk.proto, U8 pk.s0, U8 pk.s1, U8 pk.s2, U8 pk.s3, U8 pk.d0, U8 pk.d1, U8 pk.d2, U8 pk.d3, .string pk.data] 39) (am nb [I b.t, .slice u.1 (b.data).size u.2] 127))) [10] ae<|pe 0 rfl rfl<|pe 1 rfl rfl<|pe 2 rfl rfl<|ps 3 rfl (aj rfl)<|dv 4 rfl (by kernel_rfl) (ar rfl (aC rfl)) rfl<|ps 5 rfl (aj rfl)<|dv 6 rfl (by kernel_rfl) (ar rfl (aC rfl)) rfl<|pn 7 rfl (mS rfl rfl rfl rfl (by unfold maxLen; omega) (by omega) rfl) fun y70 _=>pe 8 rfl rfl<|ps 9 rfl (aj rfl)<|jv 10 rfl rfl (by kernel_rfl) (dU rfl rfl rfl) fun _ _=>dn<|kt<|js<|sr<|fz rfl<|lv ((ar rfl (aC rfl)).as (v' := Ff) (by rw [hm])) rfl<|nf rfl<|sk<|sa rfl<|ls rfl<|cy (nU tp r (I m) (I wt) (I (T.pass wt now).now) (I (T.pass wt now).dr) a.1 a.2 (aA (T.pass wt now).q) f (ay pk) (by omega)) rfl fun z=>nj<|av ((aa (am nb [I b.t, .slice y70.1 ((b.data ++ pk.data)).size y70.2] 127) (OwnB 5 y70 (b.data ++ pk.data)))) ((aa (am nb [I b.t, .slice y70.1 ((b.data ++ pk.data)).size y70.2] 127) (aa (OwnB 5 y70 (b.data ++ pk.data)) (am b5 [I pk.id, .bool pk.more, I pk.off, I pk.ttl, I pk.proto, U8 pk.s0, U8 pk.s1, U8 pk.s2, U8 pk.s3, U8 pk.d0, U8 pk.d1, U8 pk.d2, U8 pk.d3, .string pk.data] 39)))) [6, 8] ae<|pe 0 rfl rfl<|pe 1 rfl rfl<|ps 2 rfl (aj rfl)<|pl 3 rfl rfl rfl<|ps 4 rfl (rP rfl rfl)<|ps 5 rfl (aj rfl)<|jv 6 rfl rfl (by kernel_rfl) (dU rfl rfl rfl) fun _ _=>qJ 7 rfl (by kernel_rfl) (aj rfl) rfl<|jv 8 rfl rfl (by kernel_rfl) (dU rfl rfl rfl) fun _ _=>dn<|kt<|sr<|ls rfl ?_
 refine lx rfl (dU rfl rfl rfl) fun _ _=>eb rfl<|nk<|jr ?_
 rw [<- nS]
 exact fK rfl rfl rfl rfl rfl () trivial rfl (Ent.trans (Ent.take (Q := (aa (am tp [Mp r, .slice z.1 (aA (mM (T.pass wt now).q (ay pk))).length z.2, I m, I wt, I (T.pass wt now).now, I (T.pass wt now).dr] 96) (aa (eK r fv (je f (bS (ay pk)))) (aa (Ow 122 10 (.slice z.1 (aA (mM (T.pass wt now).q (ay pk))).length z.2) (aA (mM (T.pass wt now).q (ay pk))).length (aP (aA (mM (T.pass wt now).q (ay pk))))) (aa ((aa (dO l1) (dO l2))) (F))))))) (Ent.trans (Ent.of (by rw [<- iR])) (TabP.fold (T := (⟨(mM (T.pass wt now).q (ay pk)), (T.pass wt now).now, (T.pass wt now).dr⟩ : TS)) r z (l1 ++ l2) (je f (bS (ay pk))) (by show (l1 ++ l2).map (·.1) = mM (T.pass wt now).q (ay pk); rw [<- hx1]; unfold mM; rw [List.filter_map, <- rV (n := nb) hbk hl1 hl2]; rfl) (by rw [<- rV (n := nb) hbk hl1 hl2]; exact hx2.del _))))
end
section
section
variable {T : TS} {m wt now : Int} {p : Pk}
end
end
theorem mr (p : Pk) (a e : Nat) (h : e <= p.data.size) : (iu p a e).data.size = e - a := by
 show (p.data.extract a e).size = _
 rw [ByteArray.size_extract]
 omega
def yD (p : Pk) (w : Nat) (x : Pk) : Prop := x.data.size <= w /\ (0 <= x.off /\ x.off <= 8191) /\ x.id = p.id /\ x.ttl = p.ttl /\ x.proto = p.proto /\ x.s0 = p.s0 /\ x.s1 = p.s1 /\ x.s2 = p.s2 /\ x.s3 = p.s3 /\ x.d0 = p.d0 /\ x.d1 = p.d1 /\ x.d2 = p.d2 /\ x.d3 = p.d3
theorem rC {p : Pk} {w a e : Nat} (h : e <= p.data.size) (h2 : e - a <= w) (h3 : a <= 65528) : yD p w (iu p a e) := by
 refine ⟨by rw [mr p a e h]; exact h2, ⟨?_, ?_⟩, rfl, rfl, rfl, rfl, rfl, rfl, rfl, rfl, rfl, rfl, rfl⟩
 ·show 0 <= ((a / 8 : Nat) : Int); omega
 ·show ((a / 8 : Nat) : Int) <= 8191; omega
theorem mN {p : Pk} {w r : Nat} (hr : 0 < r) (hw : r <= w) (hz : p.data.size <= 65515) (a : Nat) (ha : a <= p.data.size) : ∀ x ∈ cW p w r a, yD p w x :=
 sY (p := p) (w := w) (r := r) (M := fun a l => a <= p.data.size -> ∀ x ∈ l, yD p w x) (fun a h ha x hx => by rw [List.mem_singleton.1 hx]; exact rC (Nat.le_refl _) (by omega) (by omega)) (fun a l h ih ha x hx => by
  rcases List.mem_cons.1 hx with rfl | hx
  ·exact rC (by omega) (by omega) (by omega)
  ·exact ih (by omega) x hx) hr a ha
theorem Hq {a b : Int} (h : a <= b) (hb : b <= 1125899906842624) : pL a b = 0 := by unfold pL; rw [if_neg (by omega), if_neg (by omega)]
def Hb (wt now : Int) (T : TS) : Prop := ∀ b ∈ T.q, ¬ wt < now - b.t
theorem nM {wt now : Int} {T : TS} (h : Hb wt now T) : T.pass wt now = ⟨T.q, now, T.dr⟩ := mq (q := T.q) (n0 := T.now) (d := T.dr) (fun b hb => h b (List.mem_of_mem_head? hb))
theorem uE (s : ByteArray) (a e : Nat) (h : a <= e) : s.extract 0 a ++ s.extract a e = s.extract 0 e := by
 rw [ByteArray.extract_append_extract]
 congr 1 <;> omega
theorem uF (s : ByteArray) : s.extract 0 s.size = s := by simp
section
attribute [local irreducible] JU JI LI
end
namespace Mq
variable {cur t free now id : Int} {text : ByteArray}
theorem oe (a : Int) (h : 0 <= a /\ a <= 9000000000000000000) : FSpec prog 220 #[I a] (emp) (fun _ : Unit => True) (fun _ => I (a + 20)) (fun _ => emp) := by
 refine en func220 r fun _ F=>aE r<|sa r<|gE r<|an r<|jr ?_
 exact aD rfl rfl () trivial (rfl) (ah _)
def tim (cur t : Int) : Int := if t < 0 \/ 1125899906842624 < t then 1 else if t < cur then 24 else 0
theorem uo (h : t < 0 \/ 1125899906842624 < t) : tim cur t = 1 := by unfold tim; rw [if_pos h]
theorem Bo (h : ¬ t < 0) (h' : ¬ 1125899906842624 < t) (k : t < cur) : tim cur t = 24 := by unfold tim; rw [if_neg (by omega), if_pos k]
theorem tim_c (h : ¬ t < 0) (h' : ¬ 1125899906842624 < t) (k : ¬ t < cur) : tim cur t = 0 := by unfold tim; rw [if_neg (by omega), if_neg k]
theorem rv {a b : Int} (h : a = b) : I a = I b := by rw [h]
theorem ir (p : Nat) (v : Value) (cur free t : Int) : FSpec prog 237 #[Pt p 0, I t] (am p [v, I cur, I free] 323) (fun _ : Unit => True) (fun _ => I (tim cur t)) (fun _ => am p [v, I cur, I free] 323) := by
 refine en func237 r fun _ F=>aE r<|js<|jb<|sa r<|lv (bj r r) r<|an r<|cf r<|sa r<|lv (aM r r) r<|ea r ?_
 refine il rfl rfl (fun h1 => ?_) (fun h1 => ?_) (fun _ h => by cases h; rfl)
 ·refine ea r<|bR h1 r r<|lv (bt r r) r<|lv (bo r h1 r) r<|an r ?_
  refine aG rfl (fun h2 => ?_) (fun h2 => ?_)
  ·refine aE r<|jr<|kq<|kd ?_
   exact aD rfl rfl () trivial (rv (by exact (uo (by omega)).symm)) (ah _)
  ·refine sr<|ec r<|fz r<|ld r r<|lv (aM r r) r<|an r ?_
   refine aG rfl (fun h3 => ?_) (fun h3 => ?_)
   ·refine aE r<|jr<|kq<|kd ?_
    exact aD rfl rfl () trivial (rv (by exact (Bo (by omega) (by omega) (by omega)).symm)) (ah _)
   ·refine cY<|aE r<|jr ?_
    exact aD rfl rfl () trivial (rv (by exact (tim_c (by omega) (by omega) (by omega)).symm)) (ah _)
 ·refine jf h1 rfl ?_
  refine lv (bi r h1 r) r<|an r<|ct r<|aE r<|jr<|kq<|kd ?_
  exact aD rfl rfl () trivial (rv (by exact (uo (by omega)).symm)) (ah _)
structure Sn where
 id : Int
 tx : ByteArray
 b : Int
 e : Int
def enc (x : Sn) : List Value := [I x.id, .string x.tx, I x.b, I x.e]
abbrev fQ (q : List Sn) : List Value := q.flatMap enc
theorem oY (q : List Sn) (x : Sn) : fQ q ++ enc x = fQ (q ++ [x]) := by simp [fQ]
def LineP (p : Nat) (q : List Sn) (cur free : Int) : ab := ex fun x : Option Addr × Nat => (aa (am p [.slice x.1 q.length x.2, I cur, I free] 323) (Ow 250 4 (.slice x.1 q.length x.2) q.length (fQ q)))
theorem LineP.fold {p : Nat} {q : List Sn} {F : ab} (A : Option Addr) (c : Nat) : Ent (aa (am p [.slice A q.length c, I cur, I free] 323) (aa (Ow 250 4 (.slice A q.length c) q.length (fQ q)) (F))) (aa (LineP p q cur free) (F)) := by
 rw [<- ak]
 exact Ent.ex (f := fun x : Option Addr × Nat => (aa (am p [.slice x.1 q.length x.2, I cur, I free] 323) (Ow 250 4 (.slice x.1 q.length x.2) q.length (fQ q)))) (A, c)
def jB (q : List Sn) (cur free now id : Int) (text : ByteArray) : Int × List Sn × Int × Int :=
 if tim cur now ≠ 0 then (tim cur now, q, cur, free)
 else if 1518 < (text.size : Int) then (11, q, cur, free)
 else if 4096 <= (q.length : Int) then (22, q, cur, free)
 else (0, q ++ [⟨id, text, if free > now then free else now, (if free > now then free else now) + ((text.size : Int) + 20)⟩], now, (if free > now then free else now) + ((text.size : Int) + 20))
theorem zQ {q : List Sn} (h : tim cur now ≠ 0) : jB q cur free now id text = (tim cur now, q, cur, free) := by unfold jB; rw [if_pos h]
theorem zP {q : List Sn} (h : ¬ tim cur now ≠ 0) (h2 : 1518 < (text.size : Int)) : jB q cur free now id text = (11, q, cur, free) := by unfold jB; rw [if_neg h, if_pos h2]
theorem zO {q : List Sn} (h : ¬ tim cur now ≠ 0) (h2 : ¬ 1518 < (text.size : Int)) (h3 : 4096 <= (q.length : Int)) : jB q cur free now id text = (22, q, cur, free) := by unfold jB; rw [if_neg h, if_neg h2, if_pos h3]
theorem ux {q : List Sn} (h : ¬ tim cur now ≠ 0) (h2 : ¬ 1518 < (text.size : Int)) (h3 : ¬ 4096 <= (q.length : Int)) : jB q cur free now id text =
 (0, q ++ [⟨id, text, if free > now then free else now, (if free > now then free else now) + ((text.size : Int) + 20)⟩], now, (if free > now then free else now) + ((text.size : Int) + 20)) := by unfold jB; rw [if_neg h, if_neg h2, if_neg h3]
theorem tY (p : Nat) (q : List Sn) (cur free now id : Int) (text : ByteArray) (hf : 0 <= free /\ free <= 2000000000000000000) (hn : -9223372036854775808 <= now /\ now <= 2000000000000000000) : FSpec prog 211 #[Pt p 0, I now, I id, .string text] (LineP p q cur free) (fun _ : Unit => True) (fun _ => I (jB q cur free now id text).1) (fun _ => LineP p (jB q cur free now id text).2.1 (jB q cur free now id text).2.2.1 (jB q cur free now id text).2.2.2) := by
 have hm : -9223372036854775808 <= (if free > now then free else now) /\ (if free > now then free else now) <= 2000000000000000000 := by split <;> omega
 refine en func211 r fun _ F=>?_
 refine gh fun x => ?_
 refine dY _ (ak _ _ _) ?_
 refine aE r<|sb r<|cy (ir p (.slice x.1 q.length x.2) cur free now) r fun _=>an r<|js<|jb<|sa r<|lv (bs r r) r<|an r ?_
 refine aG rfl (fun h1 => ?_) (fun h1 => ?_)
 ·refine sb r<|nk<|jr<|kq<|kd ?_
  rw [zQ h1]
  exact aD rfl rfl () trivial rfl (LineP.fold x.1 x.2)
 ·refine sa r<|lv (aX r) r<|lv (bt r r) r<|an r ?_
  refine aG rfl (fun h2 => ?_) (fun h2 => ?_)
  ·refine aE r<|jr<|kq<|kd ?_
   rw [zP h1 h2]
   exact aD rfl rfl () trivial rfl (LineP.fold x.1 x.2)
  ·refine sb r<|fz r<|ld r r<|ll r<|lv (dt r r) r<|an r ?_
   refine aG rfl (fun h3 => ?_) (fun h3 => ?_)
   ·refine aE r<|jr<|kq<|kd ?_
    rw [zO h1 h2 h3]
    exact aD rfl rfl () trivial rfl (LineP.fold x.1 x.2)
   ·refine cY<|sr<|ed r<|ea r<|fz r<|ld r r<|lv (iw r r) r<|lv (af r) r<|al r fun b10=>?_
    refine so r r<|nj<|av (emp) (am b10 [I id, .string text, I (if free > now then free else now), I 0] 250) [7] ae<|ps 0 r (aj r)<|dv 1 r (by kernel_rfl) (ar r (aC r)) r<|pe 2 r r<|ps 3 r (aX r)<|pn 4 r (ai (oe (text.size : Int) (by omega)) r r r) fun _ _=>kW<|ps 5 r (aQ r r (by omega))<|ps 6 r (aj r) ?_
    refine jv 7 r r (by kernel_rfl) (dU r r r) fun _ _=>dn<|kt<|js<|av (am b10 [I id, .string text, I (if free > now then free else now), I ((if free > now then free else now) + ((text.size : Int) + 20))] 250) ((aa (am b10 [I id, .string text, I (if free > now then free else now), I ((if free > now then free else now) + ((text.size : Int) + 20))] 250) (am p [.slice x.1 q.length x.2, I cur, I free] 323))) [15] ae<|pe 0 r r<|pe 1 r r<|pe 2 r r<|pe 3 r r<|pe 4 r r<|ps 5 r (aj r)<|dv 6 r (by kernel_rfl) (ar r (aC r)) r<|dv 7 r (by kernel_rfl) (ax r) r<|pe 10 r r<|ps 11 r (aj r)<|pl 12 r r r ?_
    refine pn 8 r (aq (m := 4) r r (by omega) (by omega) r) fun b53 _=>pn 9 r (cO (m := 4) (B := 40) r r (Src.lit) r (by omega) r (by simp [Value.oneCell']) (by unfold maxLen; omega) (by omega) r) fun y54 _=>pe 13 r r<|ps 14 r (aj r) ?_
    refine jv 15 r r (by kernel_rfl) (dU r r r) fun _ _=>qJ 16 r (by kernel_rfl) (eF r) r<|qJ 17 r (by kernel_rfl) (aj r) r ?_
    refine jv 18 r r (by kernel_rfl) (dU r r r) fun _ _=>qJ 19 r (by kernel_rfl) (eF r) r<|qJ 20 r (by kernel_rfl) (aj r) r ?_
    refine jv 21 r r (by kernel_rfl) (dU r r r) fun _ _=>dn<|kt<|aE r<|jr ?_
    rw [ux h1 h2 h3]
    have hq : fQ q ++ [I id, .string text, I (if free > now then free else now), I ((if free > now then free else now) + ((text.size : Int) + 20))] = fQ (q ++ [(⟨id, text, (if free > now then free else now), ((if free > now then free else now) + ((text.size : Int) + 20))⟩ : Sn)]) := oY q (⟨id, text, (if free > now then free else now), ((if free > now then free else now) + ((text.size : Int) + 20))⟩ : Sn)
    rw [hq, show q.length + 1 = (q ++ [(⟨id, text, (if free > now then free else now), ((if free > now then free else now) + ((text.size : Int) + 20))⟩ : Sn)]).length by simp]
    exact aD (Qo := fun _ => LineP p (q ++ [(⟨id, text, (if free > now then free else now), ((if free > now then free else now) + ((text.size : Int) + 20))⟩ : Sn)]) now ((if free > now then free else now) + ((text.size : Int) + 20))) rfl rfl () trivial rfl (Ent.trans Ent.take (LineP.fold y54.1 y54.2))
end Mq
namespace Mq
variable {q : List Sn} {now : Int} {k : Nat} {x : Sn}
theorem New_spec  : FSpec prog 125 #[] (emp) (fun p : Nat => True) (fun p => Pt p 0) (fun p => LineP p [] 0 0) := by
 refine en func125 r fun _ F=>bG<|aE r<|sr<|lv (af r) r<|bx r fun p=>an r<|jr ?_
 exact aD rfl rfl p trivial rfl (Ent.trans (Ent.trans (aw (Ent.trans (Ent.of (bN _).symm) ((Ow.nil 250 4).frame F)) _) (ah _)) (LineP.fold (q := []) none 0))
theorem Ac (x : Sn) : (enc x).length = 4 := rfl
theorem tF (x : Sn) (b : Nat) (now : Int) : FSpec prog 251 #[.agg (enc x).toArray, Pt b 0] (am b [I now] 3) (fun _ : Unit => True) (fun _ => .bool (decide (now < x.e))) (fun _ => am b [I now] 3) := by
 refine en func251 r fun _ F=>sr<|lx r (aV (l := enc x) r r) fun b2 _=>an r<|sr<|fz r<|lv (ar r (aC (l := enc x) r)) r<|ld r r<|lv (bt r r) r<|an r<|jr ?_
 exact aD rfl rfl () trivial (rfl) Ent.take
def m6 (q : List Sn) (now : Int) : Nat := q.findIdx fun x => decide (now < x.e)
theorem tq (q : List Sn) (now : Int) : m6 q now <= q.length := List.findIdx_le_length
theorem sc (hk : k <= m6 q now) (hx : q[k]? = some x) (h : now < x.e) : m6 q now = k := by
 have hl : k < q.length := by
  rcases Nat.lt_or_ge k q.length with h | h
  ·exact h
  ·rw [List.getElem?_eq_none h] at hx; cases hx
 rw [List.getElem?_eq_getElem hl] at hx
 simp only [Option.some.injEq] at hx
 rcases Nat.lt_or_ge k (m6 q now) with h' | h'
 ·have := List.not_of_lt_findIdx h'
  rw [hx] at this
  simp [h] at this
 ·omega
theorem rZ (hk : k <= m6 q now) (hx : q[k]? = some x) (h : ¬ now < x.e) : k + 1 <= m6 q now := by
 have hl : k < q.length := by
  rcases Nat.lt_or_ge k q.length with h | h
  ·exact h
  ·rw [List.getElem?_eq_none h] at hx; cases hx
 rw [List.getElem?_eq_getElem hl] at hx
 simp only [Option.some.injEq] at hx
 rcases Nat.lt_or_ge k (m6 q now) with h' | h'
 ·omega
 ·have e : m6 q now = k := by omega
  have hlt : q.findIdx (fun x => decide (now < x.e)) < q.length := by show m6 q now < _; omega
  have := List.findIdx_getElem (w := hlt)
  have e2 : q[q.findIdx (fun x => decide (now < x.e))] = x := by rw [<- hx]; congr 1
  rw [e2] at this
  simp at this
  exact absurd this h
theorem j4 (b b3 : Nat) (pre post : List Value) (q : List Sn) (c : Nat) (now : Int) (hq : q.length <= 9000000000000000000) : FSpec prog 250 #[Sk b pre.length q.length c, .func (.func 251) #[] #[Pt b3 0]] ((aa (am b (pre ++ fQ q ++ post) 250) (am b3 [I now] 3))) (fun _ : Unit => True) (fun _ => I (if m6 q now < q.length then m6 q now else -1)) (fun _ => (aa (am b (pre ++ fQ q ++ post) 250) (am b3 [I now] 3))) := by
 refine en func250 r fun _ F=>aE r<|js<|sa r<|ll r<|an r<|jb ?_
 refine bX (X := Nat) (fun k => [(0, Sk b pre.length q.length c), (1, .func (.func 251) #[] #[Pt b3 0]), (7, I q.length), (8, I k)]) (fun k => (aa (am b (pre ++ fQ q ++ post) 250) (aa (am b3 [I now] 3) (F)))) (fun k => k <= m6 q now) (fun k => q.length - k) (0) (Nat.zero_le _) ⟨rfl, rfl, rfl, rfl, trivial⟩ (Ent.of (ak _ _ _)) (fun k hk => ?_)
 refine sr<|lv (aM r r) r<|nj ?_
 refine aG rfl (fun h1 => ?_) (fun h1 => ?_)
 ·have hkl : k < q.length := by omega
  obtain ⟨y, hy⟩ : ∃ y, q[k]? = some y := ⟨_, List.getElem?_eq_getElem hkl⟩
  refine sk<|js<|jb<|sb r<|nr<|ec r<|lv (au r r (by omega)) r<|lv (br (vs := enc y) r r (fun j u hj => gg Ac hy hj)) r<|lx r (fq (first := []) (captured := [Pt b3 0]) (tF y b3 now) r r r r) fun _ _=>nk ?_
  refine gP rfl (fun h2 => ?_) (fun h2 => ?_)
  ·refine sb r<|nk<|jr<|kq<|kd<|kd<|kq<|kd ?_
   have e := sc hk hy (of_decide_eq_true h2)
   exact aD rfl rfl () trivial (rv (by rw [if_pos (by omega), e])) Ent.take
  ·refine cY<|jg<|gE r<|ea r<|ln ?_
   exact bO (k + 1) (rZ hk hy (of_decide_eq_false h2)) (by omega) ⟨rfl, rfl, rfl, rfl, trivial⟩ dH
 ·refine cx ?_
  refine ke<|ke<|kh<|kt<|aE r<|jr ?_
  exact aD rfl rfl () trivial (rv (by rw [if_neg (by omega)])) Ent.take
end Mq
namespace Mq
theorem oA (b3 : Nat) (now : Int) : FSpec prog 250 #[Ns, .func (.func 251) #[] #[Pt b3 0]] (am b3 [I now] 3) (fun _ : Unit => True) (fun _ => I (-1)) (fun _ => am b3 [I now] 3) := by
 refine en func250 r fun _ F=>aE r<|js<|sa r<|ll r<|an r<|jb ?_
 refine bX (X := Unit) (fun _ => [(7, I (0 : Nat)), (8, I 0)]) (fun _ => (aa (am b3 [I now] 3) (F))) (fun _ => True) (fun _ => 0) (()) trivial ⟨rfl, rfl, trivial⟩ (ah _) (fun _ _ => ?_)
 refine sr<|lv (aM r r) r<|nj<|aG rfl (fun h1 => by exfalso; omega) fun h1=>cx<|ke<|ke<|kh<|kt<|aE r<|jr ?_
 exact aD rfl rfl () trivial (rfl) Ent.take
theorem BJ (b o n : Nat) : jF (some (ad b o)) 0 n n 4 = Sk b o n n := by
 rw [iy]
 simp
theorem BI (b o n l c : Nat) : jF (some (ad b o)) n l c 4 = Sk b (if c = n then o else o + n * 4) (l - n) (c - n) := iy b o n l c 4
theorem oN (b b3 : Nat) (pre post : List Value) (q : List Sn) (c : Nat) (now : Int) (hq : q.length <= 9000000000000000000) (h : m6 q now < q.length) : FSpec prog 250 #[Sk b pre.length q.length c, .func (.func 251) #[] #[Pt b3 0]] ((aa (am b (pre ++ fQ q ++ post) 250) (am b3 [I now] 3))) (fun _ : Unit => True) (fun _ => I (m6 q now)) (fun _ => (aa (am b (pre ++ fQ q ++ post) 250) (am b3 [I now] 3))) := by
 have := j4 b b3 pre post q c now hq
 rwa [if_pos h] at this
theorem qY (b b3 : Nat) (pre post : List Value) (q : List Sn) (c : Nat) (now : Int) (hq : q.length <= 9000000000000000000) (h : m6 q now = q.length) : FSpec prog 250 #[Sk b pre.length q.length c, .func (.func 251) #[] #[Pt b3 0]] ((aa (am b (pre ++ fQ q ++ post) 250) (am b3 [I now] 3))) (fun _ : Unit => True) (fun _ => I (-1)) (fun _ => (aa (am b (pre ++ fQ q ++ post) 250) (am b3 [I now] 3))) := by
 have := j4 b b3 pre post q c now hq
 rwa [if_neg (by omega)] at this
theorem qP (p b c : Nat) (pre post : List Value) (q : List Sn) (cur free now : Int) (h : tim cur now = 0) (hc : q.length <= c) (hq : q.length <= 9000000000000000000) (hn : m6 q now < q.length) : FSpec prog 234 #[Pt p 0, I now] ((aa (am p [Sk b pre.length q.length c, I cur, I free] 323) (am b (pre ++ fQ q ++ post) 250))) (fun _ : Unit => True) (fun _ => .tuple #[Sk b pre.length (m6 q now) (m6 q now), I 0]) (fun _ => (aa (am p [Sk b (if c = (m6 q now) then pre.length else pre.length + (m6 q now) * 4) (q.length - (m6 q now)) (c - (m6 q now)), I now, I free] 323) (am b (pre ++ fQ q ++ post) 250))) := by
 have hle := tq q now
 refine en func234 r fun _ F=>dY _ (ak _ _ _)<|sr<|bx r fun b3=>eb r<|nj<|sa r<|ld r r<|cy (ir p (Sk b pre.length q.length c) cur free now) r fun _=>an r<|sa r<|lv (bs r r) r<|nk<|aG r (fun h1 => absurd h h1) fun h1=>sk<|sa r<|ld r r<|ea r<|fz r<|so r r<|nr<|eb r<|fz r<|ld r r<|lv (aB r r) r<|cy (oN b b3 pre post q c now hq hn) r fun _=>an r<|js<|sa r<|lv (aM r r) r<|nk<|aG rfl (fun h2 => by exfalso; omega) fun h2=>sk<|sb r<|fz r<|ld r r<|eb r<|lv (i6 r r r (by omega)) r ?_
 rw [Int.toNat_natCast, BJ]
 refine an r<|sr<|ec r<|fz r<|ld r r<|ea r<|lv (cZ r r (by omega)) r ?_
 rw [Int.toNat_natCast, BI]
 refine ea r<|fz r<|so r r<|nr<|ec r<|nk<|jr ?_
 exact cH rfl rfl rfl () trivial (rfl) Ent.take
theorem mW (p b c : Nat) (pre post : List Value) (q : List Sn) (cur free now : Int) (h : tim cur now = 0) (hc : q.length <= c) (hq : q.length <= 9000000000000000000) (hn : m6 q now = q.length) : FSpec prog 234 #[Pt p 0, I now] ((aa (am p [Sk b pre.length q.length c, I cur, I free] 323) (am b (pre ++ fQ q ++ post) 250))) (fun _ : Unit => True) (fun _ => .tuple #[Sk b pre.length q.length q.length, I 0]) (fun _ => (aa (am p [Sk b (if c = q.length then pre.length else pre.length + q.length * 4) (q.length - q.length) (c - q.length), I now, I free] 323) (am b (pre ++ fQ q ++ post) 250))) := by
 have hle := tq q now
 refine en func234 r fun _ F=>dY _ (ak _ _ _)<|sr<|bx r fun b3=>eb r<|nj<|sa r<|ld r r<|cy (ir p (Sk b pre.length q.length c) cur free now) r fun _=>an r<|sa r<|lv (bs r r) r<|nk<|aG r (fun h1 => absurd h h1) fun h1=>sk<|sa r<|ld r r<|ea r<|fz r<|so r r<|nr<|eb r<|fz r<|ld r r<|lv (aB r r) r<|cy (qY b b3 pre post q c now hq hn) r fun _=>an r<|js<|sa r<|lv (aM r r) r<|nk ?_
 refine aG rfl (fun h2 => ?_) (fun h2 => by exfalso; omega)
 refine jg<|eb r<|fz r<|ld r r<|ll r<|an r<|sb r<|fz r<|ld r r<|eb r<|lv (i6 r r r (by omega)) r ?_
 rw [Int.toNat_natCast, BJ]
 refine an r<|sr<|ec r<|fz r<|ld r r<|ea r<|lv (cZ r r (by omega)) r ?_
 rw [Int.toNat_natCast, BI]
 refine ea r<|fz r<|so r r<|nr<|ec r<|nk<|jr ?_
 exact cH rfl rfl rfl () trivial (rfl) Ent.take
theorem oL (p : Nat) (cur free now : Int) (h : tim cur now = 0) : FSpec prog 234 #[Pt p 0, I now] (am p [Ns, I cur, I free] 323) (fun _ : Unit => True) (fun _ => .tuple #[Ns, I 0]) (fun _ => am p [Ns, I now, I free] 323) := by
 refine en func234 r fun _ F=>sr<|bx r fun b3=>eb r<|nj<|sa r<|ld r r<|cy (ir p (Ns) cur free now) r fun _=>an r<|sa r<|lv (bs r r) r<|nk<|aG r (fun h1 => absurd h h1) fun h1=>sk<|sa r<|ld r r<|ea r<|fz r<|so r r<|nr<|eb r<|fz r<|ld r r<|lv (aB r r) r<|cy (oA b3 now) r fun _=>an r<|js<|sa r<|lv (aM r r) r<|nk ?_
 refine aG rfl (fun h2 => ?_) (fun h2 => by exfalso; omega)
 refine jg<|eb r<|fz r<|ld r r<|ll r<|an r<|sb r<|fz r<|ld r r<|eb r<|lv (i6 r r r (by omega)) r ?_
 rw [show jF none 0 (Int.toNat ((0 : Nat) : Int)) (Int.toNat ((0 : Nat) : Int)) 4 = Ns from rfl]
 refine an r<|sr<|ec r<|fz r<|ld r r<|ea r<|lv (cZ r r (by omega)) r ?_
 rw [show jF none (Int.toNat ((0 : Nat) : Int)) 0 0 4 = Ns from rfl]
 refine ea r<|fz r<|so r r<|nr<|ec r<|nk<|jr ?_
 exact cH rfl rfl rfl () trivial (rfl) Ent.take
end Mq
namespace Mq
variable {now : Int}
structure Wt where
 id : Int
 tx : ByteArray
def mB (x : Wt) (t : Int) : Sn := ⟨x.id, x.tx, t, t + ((x.tx.size : Int) + 20)⟩
structure QS where
 h : List Wt
 l : List Wt
 b : Bool
 go : Sn
 out : List Sn
def QS.next (s : QS) (t : Int) : QS := match s.h with
 | x :: h => { s with h := h, b := true, go := mB x t }
 | [] => match s.l with
  | x :: l => { s with l := l, b := true, go := mB x t }
  | [] => s
def QS.step (s : QS) : QS := QS.next { s with b := false, out := s.out ++ [s.go] } s.go.e
def QS.wt (s : QS) : Nat := s.h.length + s.l.length + (if s.b = true then 1 else 0)
theorem ot {s : QS} (h : s.b = true) : s.step.wt < s.wt := by
 obtain ⟨hh, l, b, go, out⟩ := s
 subst h
 cases hh with
 | cons x hh => simp [QS.step, QS.next, QS.wt] <;> omega
 | nil =>
  cases l with
  | cons x l => simp [QS.step, QS.next, QS.wt]
  | nil => simp [QS.step, QS.next, QS.wt]
def QS.run (s : QS) (now : Int) : QS := if h : s.b = true /\ s.go.e <= now then QS.run s.step now else s
termination_by s.wt
decreasing_by exact ot h.1
theorem sM {s : QS} (h : s.b = true /\ s.go.e <= now) : s.run now = s.step.run now := by rw [QS.run, dif_pos h]
theorem jX {s : QS} (h : ¬ (s.b = true /\ s.go.e <= now)) : s.run now = s := by rw [QS.run, dif_neg h]
def sg (x : Wt) : List Value := [I x.id, .string x.tx]
theorem lS (x : Wt) : (sg x).length = 2 := rfl
abbrev er (q : List Wt) : List Value := q.flatMap sg
theorem vr (q : List Wt) : (er q).length = q.length * 2 := jS lS q
abbrev Hd := Option Addr × Nat
def OutP (p : Nat) (s : QS) (m0 m1 d0 d1 now : Int) : ab := ex fun x : Hd × Hd × Hd => (aa (am p [.slice x.1.1 s.h.length x.1.2, .slice x.2.1.1 s.l.length x.2.1.2, I m0, I m1, I d0, I d1, .bool s.b, I s.go.id, .string s.go.tx, I s.go.b, I s.go.e, .slice x.2.2.1 s.out.length x.2.2.2, I now] 253) (aa (Ow 379 2 (.slice x.1.1 s.h.length x.1.2) s.h.length (er s.h)) (aa (Ow 379 2 (.slice x.2.1.1 s.l.length x.2.1.2) s.l.length (er s.l)) (Ow 250 4 (.slice x.2.2.1 s.out.length x.2.2.2) s.out.length (fQ s.out)))))
theorem OutP.fold {p : Nat} {s : QS} {m0 m1 d0 d1 : Int} {F : ab} (x : Hd × Hd × Hd) : Ent (aa (am p [.slice x.1.1 s.h.length x.1.2, .slice x.2.1.1 s.l.length x.2.1.2, I m0, I m1, I d0, I d1, .bool s.b, I s.go.id, .string s.go.tx, I s.go.b, I s.go.e, .slice x.2.2.1 s.out.length x.2.2.2, I now] 253) (aa (Ow 379 2 (.slice x.1.1 s.h.length x.1.2) s.h.length (er s.h)) (aa (Ow 379 2 (.slice x.2.1.1 s.l.length x.2.1.2) s.l.length (er s.l)) (aa (Ow 250 4 (.slice x.2.2.1 s.out.length x.2.2.2) s.out.length (fQ s.out)) (F))))) (aa (OutP p s m0 m1 d0 d1 now) (F)) := by
 refine Ent.trans (Ent.of ?_) (Ent.ex (f := fun x : Hd × Hd × Hd => (aa (am p [.slice x.1.1 s.h.length x.1.2, .slice x.2.1.1 s.l.length x.2.1.2, I m0, I m1, I d0, I d1, .bool s.b, I s.go.id, .string s.go.tx, I s.go.b, I s.go.e, .slice x.2.2.1 s.out.length x.2.2.2, I now] 253) (aa (Ow 379 2 (.slice x.1.1 s.h.length x.1.2) s.h.length (er s.h)) (aa (Ow 379 2 (.slice x.2.1.1 s.l.length x.2.1.2) s.l.length (er s.l)) (Ow 250 4 (.slice x.2.2.1 s.out.length x.2.2.2) s.out.length (fQ s.out)))))) x)
 simp only [ak]
def QS.ok (s : QS) : Prop := (∀ w, w ∈ s.h \/ w ∈ s.l -> w.tx.size <= 1518) /\ 0 <= s.go.e
theorem tW {s : QS} (h : s.ok) : s.step.ok := by
 obtain ⟨hh, l, b, go, out⟩ := s
 obtain ⟨h1, h2⟩ := h
 cases hh with
 | cons x hh => exact ⟨fun w hw => h1 w (hw.imp_left (List.mem_cons_of_mem _)), by show 0 <= go.e + ((x.tx.size : Int) + 20); dsimp only at h2; omega⟩
 | nil =>
  cases l with
  | cons x l => exact ⟨fun w hw => h1 w (hw.imp_right (List.mem_cons_of_mem _)), by show 0 <= go.e + ((x.tx.size : Int) + 20); dsimp only at h2; omega⟩
  | nil => exact ⟨h1, h2⟩
theorem xj (n : Int) : FSpec prog 121 #[I n] (emp) (fun _ : Unit => True) (fun _ => .bool (decide (1 <= n /\ n <= 1024))) (fun _ => emp) := by
 refine en func121 r fun _ F=>aE r<|sa r<|lv (dt r r) r<|ea r ?_
 refine sO rfl rfl (fun h1 => ?_) (fun h1 => ?_) (fun _ h => by cases h; rfl)
 ·refine ea r<|cT h1 r r<|lv (fh r r) r<|lv (bi r h1 r) r<|an r<|jr ?_
  exact aD rfl rfl () trivial (congrArg Value.bool (by exact decide_eq_decide.2 (by omega))) (ah _)
 ·refine cJ h1 rfl rfl ?_ (fun _ h => by cases h; rfl)
  refine lv (bo r h1 r) r<|an r<|jr ?_
  exact aD rfl rfl () trivial (congrArg Value.bool (by (exact (decide_eq_false (by omega)).symm))) (ah _)
theorem tj  : FSpec prog 194 #[Ff] (emp) (fun _ : Unit => True) (fun _ => I 1) (fun _ => emp) := by
 refine en func194 r fun _ F=>aE r<|js<|aE r<|cf r<|sk<|aE r<|jr ?_
 exact aD rfl rfl () trivial (rfl) (ah _)
theorem mQ (p : Nat) (c0 c1 c2 c3 c4 c5 c6 c7 c8 c9 c10 c11 : Value) (cur t : Int) : FSpec prog 187 #[Pt p 0, I t] (am p [c0, c1, c2, c3, c4, c5, c6, c7, c8, c9, c10, c11, I cur] 253) (fun _ : Unit => True) (fun _ => I (tim cur t)) (fun _ => am p [c0, c1, c2, c3, c4, c5, c6, c7, c8, c9, c10, c11, I cur] 253) := by
 refine en func187 r fun _ F=>aE r<|js<|jb<|sa r<|lv (bj r r) r<|an r<|cf r<|sa r<|lv (aM r r) r<|ea r ?_
 refine il rfl rfl (fun h1 => ?_) (fun h1 => ?_) (fun _ h => by cases h; rfl)
 ·refine ea r<|bR h1 r r<|lv (bt r r) r<|lv (bo r h1 r) r<|an r ?_
  refine aG rfl (fun h2 => ?_) (fun h2 => ?_)
  ·refine aE r<|jr<|kq<|kd ?_
   exact aD rfl rfl () trivial (rv (by exact (uo (by omega)).symm)) (ah _)
  ·refine sr<|ec r<|fz r<|ld r r<|lv (aM r r) r<|an r ?_
   refine aG rfl (fun h3 => ?_) (fun h3 => ?_)
   ·refine aE r<|jr<|kq<|kd ?_
    exact aD rfl rfl () trivial (rv (by exact (Bo (by omega) (by omega) (by omega)).symm)) (ah _)
   ·refine cY<|aE r<|jr ?_
    exact aD rfl rfl () trivial (rv (by exact (tim_c (by omega) (by omega) (by omega)).symm)) (ah _)
 ·refine jf h1 rfl ?_
  refine lv (bi r h1 r) r<|an r<|ct r<|aE r<|jr<|kq<|kd ?_
  exact aD rfl rfl () trivial (rv (by exact (uo (by omega)).symm)) (ah _)
theorem ic (p : Nat) (c0 c1 c2 c3 c4 c5 c11 c12 : Value) (b : Bool) (g : Sn) (t : Int) (w : Wt) (ht : 0 <= t /\ t <= 2000000000000000000) (hw : w.tx.size <= 1518) : FSpec prog 195 #[Pt p 0, I t, .agg (sg w).toArray] (am p [c0, c1, c2, c3, c4, c5, .bool b, I g.id, .string g.tx, I g.b, I g.e, c11, c12] 253) (fun _ : Unit => True) (fun _ => .tuple #[]) (fun _ => am p [c0, c1, c2, c3, c4, c5, Tt, I w.id, .string w.tx, I t, I (t + ((w.tx.size : Int) + 20)), c11, c12] 253) := by
 refine en func195 r fun _ F=>sr<|lx r (aV (l := [I w.id, .string w.tx]) r r) fun b5 _=>nr<|eb r<|fz r ?_
 refine so r r<|nk<|av (am b5 [I w.id, .string w.tx] 379) (am b5 [I w.id, .string w.tx] 379) [] ae<|pe 0 r r<|ps 1 r (aj r)<|dv 2 r (by kernel_rfl) (ar r (aC r)) r<|ps 3 r (aj r)<|dv 4 r (by kernel_rfl) (ar r (aC r)) r<|pe 5 r r<|pe 6 r r<|ps 7 r (aj r)<|dv 8 r (by kernel_rfl) (ar r (aC r)) r<|ps 9 r (aX r)<|pn 10 r (ai (oe (w.tx.size : Int) (by omega)) r r r) fun _ _=>kW<|ps 11 r (aQ r r (by omega)) ?_
 refine ps 12 r (af r)<|pe 13 r r<|ps 14 r (aj r) ?_
 refine pn 15 r (dU r r r) fun _ _=>dn ?_
 exact eG rfl () trivial rfl Ent.take
theorem BH (b n m c : Nat) (h : n + 1 <= c) : jF (some (ad b m)) (Int.toNat 1) (n + 1) c 2 = Sk b (if c = 1 then m else m + 1 * 2) n (c - 1) := by
 rw [show Int.toNat 1 = 1 from rfl, iy, show n + 1 - 1 = n by omega]
theorem Cn (p : Nat) (c1 c2 c3 c4 c5 c11 c12 : Value) (g : Sn) (t : Int) (ht : 0 <= t /\ t <= 2000000000000000000) (b cap : Nat) (pre post : List Value) (w : Wt) (q : List Wt) (hw : w.tx.size <= 1518) (hc : q.length + 1 <= cap) : FSpec prog 213 #[Pt p 0, I t] ((aa (am p [Sk b pre.length (q.length + 1) cap, c1, c2, c3, c4, c5, Ff, I g.id, .string g.tx, I g.b, I g.e, c11, c12] 253) (am b (pre ++ er (w :: q) ++ post) 379))) (fun _ : Unit => True) (fun _ => .tuple #[]) (fun _ => (aa (am p [Sk b (if cap = 1 then pre.length else pre.length + 1 * 2) q.length (cap - 1), c1, c2, c3, c4, c5, Tt, I w.id, .string w.tx, I t, I (t + ((w.tx.size : Int) + 20)), c11, c12] 253) (am b (pre ++ er (w :: q) ++ post) 379))) := by
 refine en func213 r fun _ F=>aE r<|jb ?_
 refine bX (X := Nat) (fun k => [(0, Pt p 0), (1, I t), (6, I k)]) (fun k => (aa (am p [Sk b pre.length (q.length + 1) cap, c1, c2, c3, c4, c5, Ff, I g.id, .string g.tx, I g.b, I g.e, c11, c12] 253) (aa (am b (pre ++ er (w :: q) ++ post) 379) (F)))) (fun k => k < 1) (fun k => 1 - k) (0) (by decide) ⟨rfl, rfl, rfl, trivial⟩ dH (fun k hk => ?_)
 rcases (show k = 0 by omega) with rfl
 ·refine sr<|lv (aM r r) r<|nj ?_
  refine aG rfl (fun h1 => ?_) (fun h1 => absurd (by decide) h1)
  refine sk<|js<|jb<|sb r<|nr<|ec r<|fz r<|lv (aK r r (by omega)) r<|ld r r<|an r<|sa r<|ll r<|lv (bt r r) r<|nk ?_
  refine aG rfl (fun h2 => ?_) (fun h2 => by exfalso; omega)
  refine js<|av (emp) (emp) [] ae<|pe 0 r r<|pe 1 r r<|pe 2 r r<|ps 3 r ((cZ r r (by omega)).as (v' := Sk b (if cap = 1 then pre.length else pre.length + 1 * 2) q.length (cap - 1)) (BH _ _ _ _ (by omega)))<|pe 4 r r<|ps 5 r (aj r)<|ps 6 r ((aK r r (by omega)).as (v' := Pt p 0) r)<|pn 7 r (dU r r r) fun _ _=>dn<|kt<|sr<|ec r<|lv (au r r (by omega)) r<|lv (br (vs := sg w) r r (fun j u hj => gg lS (q := w :: q) (i := 0) r hj)) r<|cy (ic p (Sk b (if cap = 1 then pre.length else pre.length + 1 * 2) q.length (cap - 1)) (c1) (c2) (c3) (c4) (c5) (c11) (c12) false g t w ht hw) r fun _=>nk<|jr<|kq<|kd<|kd<|kq ?_
  exact kZ rfl () trivial rfl Ent.take
theorem Cm (p : Nat) (c2 c3 c4 c5 c11 c12 : Value) (a0 : Option Addr) (k0 : Nat) (g : Sn) (t : Int) (ht : 0 <= t /\ t <= 2000000000000000000) (b cap : Nat) (pre post : List Value) (w : Wt) (q : List Wt) (hw : w.tx.size <= 1518) (hc : q.length + 1 <= cap) : FSpec prog 213 #[Pt p 0, I t] ((aa (am p [.slice a0 0 k0, Sk b pre.length (q.length + 1) cap, c2, c3, c4, c5, Ff, I g.id, .string g.tx, I g.b, I g.e, c11, c12] 253) (am b (pre ++ er (w :: q) ++ post) 379))) (fun _ : Unit => True) (fun _ => .tuple #[]) (fun _ => (aa (am p [.slice a0 0 k0, Sk b (if cap = 1 then pre.length else pre.length + 1 * 2) q.length (cap - 1), c2, c3, c4, c5, Tt, I w.id, .string w.tx, I t, I (t + ((w.tx.size : Int) + 20)), c11, c12] 253) (am b (pre ++ er (w :: q) ++ post) 379))) := by
 refine en func213 r fun _ F=>aE r<|jb ?_
 refine bX (X := Nat) (fun k => [(0, Pt p 0), (1, I t), (6, I k)]) (fun k => (aa (am p [.slice a0 0 k0, Sk b pre.length (q.length + 1) cap, c2, c3, c4, c5, Ff, I g.id, .string g.tx, I g.b, I g.e, c11, c12] 253) (aa (am b (pre ++ er (w :: q) ++ post) 379) (F)))) (fun k => k < 2) (fun k => 2 - k) (0) (by decide) ⟨rfl, rfl, rfl, trivial⟩ dH (fun k hk => ?_)
 rcases (show k = 0 \/ k = 1 by omega) with rfl | rfl
 ·refine sr<|lv (aM r r) r<|nj ?_
  refine aG rfl (fun h1 => ?_) (fun h1 => absurd (by decide) h1)
  refine sk<|js<|jb<|sb r<|nr<|ec r<|fz r<|lv (aK r r (by omega)) r<|ld r r<|an r<|sa r<|ll r<|lv (bt r r) r<|nk<|aG r (fun h2 => absurd h2 (by decide)) fun h2=>cY<|jg<|gE r<|ea r<|ln ?_
  exact bO (1) (by decide) (by decide) ⟨rfl, rfl, rfl, trivial⟩ (ah _)
 ·refine sr<|lv (aM r r) r<|nj ?_
  refine aG rfl (fun h3 => ?_) (fun h3 => absurd (by decide) h3)
  refine sk<|js<|jb<|sb r<|nr<|ec r<|fz r<|lv (aK r r (by omega)) r<|ld r r<|an r<|sa r<|ll r<|lv (bt r r) r<|nk ?_
  refine aG rfl (fun h4 => ?_) (fun h4 => by exfalso; omega)
  refine js<|av (emp) (emp) [] ae<|pe 0 r r<|pe 1 r r<|pe 2 r r<|ps 3 r ((cZ r r (by omega)).as (v' := Sk b (if cap = 1 then pre.length else pre.length + 1 * 2) q.length (cap - 1)) (BH _ _ _ _ (by omega)))<|pe 4 r r<|ps 5 r (aj r)<|ps 6 r ((aK r r (by omega)).as (v' := Pt p 1) r)<|pn 7 r (dU r r r) fun _ _=>dn<|kt<|sr<|ec r<|lv (au r r (by omega)) r<|lv (br (vs := sg w) r r (fun j u hj => gg lS (q := w :: q) (i := 0) r hj)) r<|cy (ic p (.slice a0 0 k0) (Sk b (if cap = 1 then pre.length else pre.length + 1 * 2) q.length (cap - 1)) (c2) (c3) (c4) (c5) (c11) (c12) false g t w ht hw) r fun _=>nk<|jr<|kq<|kd<|kd<|kq ?_
  exact kZ rfl () trivial rfl Ent.take
theorem Cl (p : Nat) (c2 c3 c4 c5 c11 c12 : Value) (a0 a1 : Option Addr) (k0 k1 : Nat) (g : Sn) (t : Int) (ht : 0 <= t /\ t <= 2000000000000000000) : FSpec prog 213 #[Pt p 0, I t] (am p [.slice a0 0 k0, .slice a1 0 k1, c2, c3, c4, c5, Ff, I g.id, .string g.tx, I g.b, I g.e, c11, c12] 253) (fun _ : Unit => True) (fun _ => .tuple #[]) (fun _ => am p [.slice a0 0 k0, .slice a1 0 k1, c2, c3, c4, c5, Ff, I g.id, .string g.tx, I g.b, I g.e, c11, c12] 253) := by
 refine en func213 r fun _ F=>aE r<|jb ?_
 refine bX (X := Nat) (fun k => [(0, Pt p 0), (1, I t), (6, I k)]) (fun k => (aa (am p [.slice a0 0 k0, .slice a1 0 k1, c2, c3, c4, c5, Ff, I g.id, .string g.tx, I g.b, I g.e, c11, c12] 253) (F))) (fun k => k < 3) (fun k => 3 - k) (0) (by decide) ⟨rfl, rfl, rfl, trivial⟩ (ah _) (fun k hk => ?_)
 rcases (show k = 0 \/ k = 1 \/ k = 2 by omega) with rfl | rfl | rfl
 ·refine sr<|lv (aM r r) r<|nj ?_
  refine aG rfl (fun h1 => ?_) (fun h1 => absurd (by decide) h1)
  refine sk<|js<|jb<|sb r<|nr<|ec r<|fz r<|lv (aK r r (by omega)) r<|ld r r<|an r<|sa r<|ll r<|lv (bt r r) r<|nk<|aG r (fun h2 => absurd h2 (by decide)) fun h2=>cY<|jg<|gE r<|ea r<|ln ?_
  exact bO (1) (by decide) (by decide) ⟨rfl, rfl, rfl, trivial⟩ (ah _)
 ·refine sr<|lv (aM r r) r<|nj ?_
  refine aG rfl (fun h3 => ?_) (fun h3 => absurd (by decide) h3)
  refine sk<|js<|jb<|sb r<|nr<|ec r<|fz r<|lv (aK r r (by omega)) r<|ld r r<|an r<|sa r<|ll r<|lv (bt r r) r<|nk<|aG r (fun h4 => absurd h4 (by decide)) fun h4=>cY<|jg<|gE r<|ea r<|ln ?_
  exact bO (2) (by decide) (by decide) ⟨rfl, rfl, rfl, trivial⟩ (ah _)
 ·refine sr<|lv (aM r r) r<|nj<|aG r (fun h5 => absurd h5 (by decide)) fun h5=>?_
  refine cx<|ke<|ke<|kh ?_
  exact eG rfl () trivial rfl Ent.take
end Mq
namespace Mq
theorem uH {b cap : Nat} {pre post : List Value} {w : Wt} {q : List Wt} (h1 : q.length + 1 <= cap) (h2 : cap <= maxLen) (h3 : (cap - (q.length + 1)) * 2 <= post.length) : Ent (am b (pre ++ er (w :: q) ++ post) 379) (Ow 379 2 (Sk b (if cap = 1 then pre.length else pre.length + 1 * 2) q.length (cap - 1)) q.length (er q)) := by
 have hq := vr q
 by_cases hcap : cap = 1
 ·have hq0 : q = [] := List.eq_nil_of_length_eq_zero (by omega)
  subst hq0
  have := Ow.mk (e := 379) (m := 2) (len := 0) (b := b) (cap := cap - 1) (v := Sk b pre.length 0 (cap - 1)) (l := []) (pre := pre) (post := er [w] ++ post) rfl (by omega) (by omega) (by simp) (by rw [hcap]; simp)
  rw [if_pos hcap]
  simpa [er] using this
 ·have := Ow.mk (e := 379) (m := 2) (len := q.length) (b := b) (cap := cap - 1) (v := .slice (some (ad b (pre ++ sg w).length)) q.length (cap - 1)) (l := er q) (pre := pre ++ sg w) (post := post) rfl (by omega) (by omega) hq (by rw [show cap - 1 - q.length = cap - (q.length + 1) by omega]; exact h3)
  rw [if_neg hcap]
  rw [List.length_append, lS] at this
  have e : pre ++ er (w :: q) ++ post = pre ++ sg w ++ er q ++ post := by simp [er]
  rw [e]
  exact this
theorem vd (p : Nat) (s : QS) (m0 m1 d0 d1 now t : Int) (ht : 0 <= t /\ t <= 2000000000000000000) (hz : ∀ w, w ∈ s.h \/ w ∈ s.l -> w.tx.size <= 1518) (hb : s.b = false) : FSpec prog 213 #[Pt p 0, I t] (OutP p s m0 m1 d0 d1 now) (fun _ : Unit => True) (fun _ => .tuple #[]) (fun _ => OutP p (s.next t) m0 m1 d0 d1 now) := by
 obtain ⟨h, l, b, go, out⟩ := s
 dsimp only at hb hz
 subst hb
 refine FSpec.ex fun x => ?_
 obtain ⟨⟨A0, k0⟩, ⟨A1, k1⟩, ⟨A2, k2⟩⟩ := x
 cases h with
 | cons w h =>
  refine FSpec.eq _ (aR _ _ _) ?_
  refine FSpec.own (fun _ e _ => by simp at e) (fun b cap pre post e1 e2 e3 e4 e5 => ?_)
  simp only [Value.slice.injEq] at e1
  obtain ⟨a1, _, a2⟩ := e1
  subst a1 a2
  have e2' : h.length + 1 <= k0 := e2
  refine ((Cn p _ (I m0) (I m1) (I d0) (I d1) _ (I now) go t ht b k0 pre post w h (hz w (.inl (List.mem_cons_self ..))) e2').frame _).conseq (Ent.of ((aR _ _ _).trans (ak _ _ _).symm)) fun _ _ => ⟨(), trivial, rfl, ?_⟩
  refine Ent.trans (Ent.of (ak _ _ _)) (Ent.trans (aw (Ent.frame (uH e2' e3 e5) _) _) ?_)
  exact bh (f := fun x : Hd × Hd × Hd => (aa (am p [.slice x.1.1 h.length x.1.2, .slice x.2.1.1 l.length x.2.1.2, I m0, I m1, I d0, I d1, Tt, I w.id, .string w.tx, I t, I (t + ((w.tx.size : Int) + 20)), .slice x.2.2.1 out.length x.2.2.2, I now] 253) (aa (Ow 379 2 (.slice x.1.1 h.length x.1.2) h.length (er h)) (aa (Ow 379 2 (.slice x.2.1.1 l.length x.2.1.2) l.length (er l)) (Ow 250 4 (.slice x.2.2.1 out.length x.2.2.2) out.length (fQ out)))))) ((_, _), (A1, k1), (A2, k2))
 | nil =>
  cases l with
  | cons w l =>
   refine FSpec.eq _ ((congrArg (aa _) (aR _ _ _)).trans (aR _ _ _)) ?_
   refine FSpec.own (fun _ e _ => by simp at e) (fun b cap pre post e1 e2 e3 e4 e5 => ?_)
   simp only [Value.slice.injEq] at e1
   obtain ⟨a1, _, a2⟩ := e1
   subst a1 a2
   have e2' : l.length + 1 <= k1 := e2
   refine ((Cm p (I m0) (I m1) (I d0) (I d1) _ (I now) A0 k0 go t ht b k1 pre post w l (hz w (.inr (List.mem_cons_self ..))) e2').frame _).conseq (Ent.of ((aR _ _ _).trans (ak _ _ _).symm)) fun _ _ => ⟨(), trivial, rfl, ?_⟩
   refine Ent.trans (Ent.of (ak _ _ _)) (Ent.trans (aw (Ent.trans (Ent.frame (uH e2' e3 e5) _) (Ent.of (aR _ _ _))) _) ?_)
   exact bh (f := fun x : Hd × Hd × Hd => (aa (am p [.slice x.1.1 0 x.1.2, .slice x.2.1.1 l.length x.2.1.2, I m0, I m1, I d0, I d1, Tt, I w.id, .string w.tx, I t, I (t + ((w.tx.size : Int) + 20)), .slice x.2.2.1 out.length x.2.2.2, I now] 253) (aa (Ow 379 2 (.slice x.1.1 0 x.1.2) 0 (er [])) (aa (Ow 379 2 (.slice x.2.1.1 l.length x.2.1.2) l.length (er l)) (Ow 250 4 (.slice x.2.2.1 out.length x.2.2.2) out.length (fQ out)))))) ((A0, k0), (_, _), (A2, k2))
  | nil =>
   refine ((Cl p (I m0) (I m1) (I d0) (I d1) _ (I now) A0 A1 k0 k1 go t ht).frame _).conseq (ah _) fun _ _ => ⟨(), trivial, rfl, ?_⟩
   exact bh (f := fun x : Hd × Hd × Hd => (aa (am p [.slice x.1.1 0 x.1.2, .slice x.2.1.1 0 x.2.1.2, I m0, I m1, I d0, I d1, Ff, I go.id, .string go.tx, I go.b, I go.e, .slice x.2.2.1 out.length x.2.2.2, I now] 253) (aa (Ow 379 2 (.slice x.1.1 0 x.1.2) 0 (er [])) (aa (Ow 379 2 (.slice x.2.1.1 0 x.2.1.2) 0 (er [])) (Ow 250 4 (.slice x.2.2.1 out.length x.2.2.2) out.length (fQ out)))))) ((A0, k0), (A1, k1), (A2, k2))
abbrev _root_.Go.qq66 (a : Hd × Hd × Hd) (b : QS) := Ow 250 4 (.slice a.2.2.1 b.out.length a.2.2.2) b.out.length (fQ b.out)
theorem ij {p : Nat} {s : QS} {m0 m1 d0 d1 now : Int} {F : ab} (x : Hd × Hd × Hd) : Ent (aa (am p [.slice x.1.1 s.h.length x.1.2, .slice x.2.1.1 s.l.length x.2.1.2, I m0, I m1, I d0, I d1, .bool s.b, I s.go.id, .string s.go.tx, I s.go.b, I s.go.e, .slice x.2.2.1 s.out.length x.2.2.2, I now] 253) (aa ((aa (Ow 379 2 (.slice x.1.1 s.h.length x.1.2) s.h.length (er s.h)) (aa (Ow 379 2 (.slice x.2.1.1 s.l.length x.2.1.2) s.l.length (er s.l)) (qq66 x s)))) (F))) (aa (OutP p s m0 m1 d0 d1 now) (F)) := Ent.trans (Ent.of (by simp only [ak])) (OutP.fold x)
theorem sL (s : QS) : s.step.out.length = s.out.length + 1 := by
 obtain ⟨h, l, b, go, out⟩ := s
 cases h with
 | cons x h => simp [QS.step, QS.next]
 | nil => cases l with
  | cons x l => simp [QS.step, QS.next]
  | nil => simp [QS.step, QS.next]
theorem ru (p : Nat) (s : QS) (m0 m1 d0 d1 cur now : Int) (hnow : -9223372036854775808 <= now /\ now <= 2000000000000000000) (hok : s.ok) (hn : s.out.length + s.wt <= 1000000) : FSpec prog 188 #[Pt p 0, I now] (OutP p s m0 m1 d0 d1 cur) (fun _ : Unit => True) (fun _ => .tuple #[]) (fun _ => OutP p (s.run now) m0 m1 d0 d1 now) := by
 refine en func188 r fun _ F=>gh fun x =>dY _ (ak _ _ _)<|sr<|ec r<|fz r<|so r r<|nk<|jb ?_
 refine bX (X := QS) (fun y => [(0, Pt p 0), (1, I now)]) (fun y => (aa (OutP p y m0 m1 d0 d1 now) (F))) (fun y => (y.ok /\ y.out.length + y.wt <= 1000000) /\ s.run now = y.run now) (fun y => y.wt) (s) ⟨⟨hok, hn⟩, rfl⟩ ⟨rfl, rfl, trivial⟩ (ij x) (fun y hy => ?_)
 obtain ⟨⟨hyo, hyn⟩, hy⟩ := hy
 refine gh fun x =>dY _ (ak _ _ _)<|js<|sb r<|fz r<|lv ((ar r (aC r)).as (v' := .bool (decide (y.b = true))) (by simp)) r<|ea r ?_
 refine sO rfl rfl (fun h1 => ?_) (fun h1 => ?_) (fun _ h => by cases h; rfl)
 ·refine ea r<|cT h1 r r<|ea r<|cT h1 r r<|fz r<|cT h1 r r<|fy r<|cT h1 r r<|ld r r<|cT h1 r r<|ea r<|cT h1 r r<|lv (fh r r) r<|lv (bi r h1 r) r<|nk ?_
  refine aG rfl (fun h2 => ?_) (fun h2 => ?_)
  ·have hby : y.b = true := by assumption
   have hle : y.go.e <= now := by assumption
   refine sk<|jb<|js ?_
   have hfl : fQ y.out ++ [I y.go.id, .string y.go.tx, I y.go.b, I y.go.e] = fQ (y.out ++ [y.go]) := oY y.out y.go
   have hwl : y.out.length <= 1000000 := by omega
   refine av (emp) (am p [.slice x.1.1 y.h.length x.1.2, .slice x.2.1.1 y.l.length x.2.1.2, I m0, I m1, I d0, I d1, .bool y.b, I y.go.id, .string y.go.tx, I y.go.b, I y.go.e, .slice x.2.2.1 y.out.length x.2.2.2, I now] 253) [13] ae<|pe 0 r r<|pe 1 r r<|pe 2 r r<|ps 3 r (aj r)<|dv 4 r (by kernel_rfl) (ar r (aC r)) r<|pe 5 r r<|pe 6 r r<|ps 7 r (aj r)<|dv 8 r (by kernel_rfl) (ax r) r<|pn 9 r (aq (m := 4) r r (by omega) (by omega) r) fun b30 _=>pn 10 r (cO (m := 4) (B := 40) r r (Src.lit) r (by omega) r (by simp [Value.oneCell']) (by unfold maxLen; omega) (by omega) r) fun y31 _=>pe 11 r r<|ps 12 r (aj r)<|jv 13 r r (by kernel_rfl) (dU r r r) fun _ _=>dn<|kt<|sb r<|fz r<|so r r<|nk<|jg<|ec r<|fz r<|fy r<|ld r r ?_
   rw [hfl, show y.out.length + 1 = (y.out ++ [y.go]).length by simp]
   refine uP (aa (OutP p (⟨y.h, y.l, false, y.go, y.out ++ [y.go]⟩ : QS) m0 m1 d0 d1 now) (F)) (Ent.trans Ent.take (OutP.fold (s := (⟨y.h, y.l, false, y.go, y.out ++ [y.go]⟩ : QS)) (x.1, x.2.1, y31)))<|cy (vd p (⟨y.h, y.l, false, y.go, y.out ++ [y.go]⟩ : QS) m0 m1 d0 d1 now y.go.e ⟨hyo.2, by omega⟩ hyo.1 rfl) rfl fun _=>ln<|kb ?_
   have hst := ot hby
   have hso : y.step.out.length = y.out.length + 1 := sL y
   exact bO (y.step) ⟨⟨tW hyo, by omega⟩, by rw [hy, sM ⟨hby, hle⟩]⟩ hst ⟨rfl, rfl, trivial⟩ (ah _)
  ·refine cx ?_
   refine ke<|ke<|kh ?_
   have hno : ¬ (y.b = true /\ y.go.e <= now) := by rintro ⟨g1, g2⟩; contradiction
   rw [hy, jX hno]
   exact eG rfl () trivial rfl (ij x)
 ·refine cJ h1 rfl rfl ?_ (fun _ h => by cases h; rfl)
  refine cJ h1 rfl rfl ?_ (fun _ h => by cases h; rfl)
  refine cJ h1 rfl rfl ?_ (fun _ h => by cases h; rfl)
  refine cJ h1 rfl rfl ?_ (fun _ h => by cases h; rfl)
  refine cJ h1 rfl rfl ?_ (fun _ h => by cases h; rfl)
  refine cJ h1 rfl rfl ?_ (fun _ h => by cases h; rfl)
  refine lv (bo r h1 r) r<|nf r<|cx<|ke<|ke<|kh ?_
  have hno : ¬ (y.b = true /\ y.go.e <= now) := by rintro ⟨g1, g2⟩; contradiction
  rw [hy, jX hno]
  exact eG rfl () trivial rfl (ij x)
end Mq
namespace Mq
variable {p : Nat} {m0 m1 now : Int} {F : ab}
def qs0 : QS := ⟨[], [], false, ⟨0, ⟨#[]⟩, 0, 0⟩, []⟩
theorem HG : Ent (aa (am p [Ns, Ns, I m0, I m1, I 0, I 0, Ff, I 0, Z, I 0, I 0, Ns, I 0] 253) (F)) (aa (OutP p qs0 m0 m1 0 0 0) (F)) :=
 Ent.trans (aw (Ent.trans (Ent.of (bN F).symm) (Ent.trans ((Ow.nil 250 4).frame F) (Ent.trans (Ent.of (bN _).symm) (Ent.trans ((Ow.nil 379 2).frame _) (Ent.trans (Ent.of (bN _).symm) ((Ow.nil 379 2).frame _)))))) _) (OutP.fold (s := qs0) ((none, 0), (none, 0), (none, 0)))
theorem uz (n : Int) (h : 1 <= n /\ n <= 1024) : FSpec prog 121 #[I n] emp (fun _ : Unit => True) (fun _ => Tt) (fun _ => emp) := by
 have := xj n
 rwa [decide_eq_true h] at this
theorem QNew_ok (a c : Int) (ha : 1 <= a /\ a <= 1024) (hc : 1 <= c /\ c <= 1024) : FSpec prog 93 #[I a, I c] (emp) (fun p : Nat => True) (fun p => .tuple #[Pt p 0, I 0]) (fun p => OutP p qs0 a c 0 0 0) := by
 refine en func93 r fun _ F=>bG<|sb r<|nj<|sa r<|cy (uz a ha) r fun _=>cj<|lv (fF r) r<|ea r<|go r<|ea r<|go r<|cy (uz c hc) r fun _=>cj<|go r<|lv (fF r) r<|an r<|cf r<|sk<|sb r<|lv (bQ (pl := [(0, 1), (1, 1)]) r r) r<|lv (af r) r<|bx r fun p=>eb r<|nk<|jr ?_
 exact cH rfl rfl rfl p trivial rfl (Ent.trans HG (ah _))
theorem wG {cur : Int} (h : tim cur now = 0) : 0 <= now /\ now <= 1125899906842624 := by
 unfold tim at h
 split at h
 ·cases h
 ·omega
theorem u0 {s : QS} {d0 d1 : Int} (x : Hd × Hd × Hd) : Ent (aa (am p [.slice x.1.1 s.h.length x.1.2, .slice x.2.1.1 s.l.length x.2.1.2, I m0, I m1, I d0, I d1, .bool s.b, I s.go.id, .string s.go.tx, I s.go.b, I s.go.e, .slice ((none, 0) : Hd).1 0 ((none, 0) : Hd).2, I now] 253) (aa ((aa (Ow 379 2 (.slice x.1.1 s.h.length x.1.2) s.h.length (er s.h)) (aa (Ow 379 2 (.slice x.2.1.1 s.l.length x.2.1.2) s.l.length (er s.l)) (qq66 x s)))) (F))) (aa ((aa (OutP p { s with out := [] } m0 m1 d0 d1 now) (qq66 x s))) (F)) :=
 by
 have h := OutP.fold (p := p) (s := { s with out := [] }) (m0 := m0) (m1 := m1) (d0 := d0) (d1 := d1) (now := now) (F := (aa (qq66 x s) (F))) (x.1, x.2.1, (none, 0))
 have e1 := (Ow.nil 250 4).frame (aa (qq66 x s) (F))
 rw [bN] at e1
 refine Ent.trans ?_ (Ent.trans h (Ent.of (ak _ _ _).symm))
 rw [ak, ak]
 exact aw (aw (aw e1 _) _) _
theorem sN (p : Nat) (s : QS) (m0 m1 d0 d1 cur now : Int) (h : tim cur now = 0) (hok : s.ok) (hn : s.out.length + s.wt <= 1000000) : FSpec prog 163 #[Pt p 0, I now] (OutP p s m0 m1 d0 d1 cur) (fun r : Hd => True) (fun r => .tuple #[.slice r.1 (s.run now).out.length r.2, I 0]) (fun r => (aa (OutP p { (s.run now) with out := [] } m0 m1 d0 d1 now) (Ow 250 4 (.slice r.1 (s.run now).out.length r.2) (s.run now).out.length (fQ (s.run now).out)))) := by
 have hb : 0 <= now /\ now <= 1125899906842624 := wG h
 refine en func163 rfl fun _ F=>gh fun x =>dY _ (ak _ _ _)<|sb rfl<|nj<|sb rfl<|cy (mQ p (.slice x.1.1 s.h.length x.1.2) (.slice x.2.1.1 s.l.length x.2.1.2) (I m0) (I m1) (I d0) (I d1) (.bool s.b) (I s.go.id) (.string s.go.tx) (I s.go.b) (I s.go.e) (.slice x.2.2.1 s.out.length x.2.2.2) cur now) rfl fun _=>an rfl<|sa rfl<|lv ((bs rfl rfl).bool_f (fun n => n h)) rfl<|nf rfl<|sk<|sb rfl<|uP (aa (OutP p s m0 m1 d0 d1 cur) (F)) (ij x)<|cy (ru p s m0 m1 d0 d1 cur now (by omega) hok hn) rfl fun _=>yM fun x =>ue _ (ak _ _ _)<|nr<|eb rfl<|fz rfl<|ld rfl rfl<|an rfl<|sb rfl<|fz rfl<|lx rfl (dU rfl rfl rfl) fun _ _=>nr<|ec rfl<|nk<|jr ?_
 exact cH rfl rfl rfl x.2.2 trivial rfl (u0 x)
theorem na (p : Nat) (s : QS) (m0 m1 d0 d1 cur now id : Int) (text : ByteArray) (hl : ¬ 1518 < (text.size : Int)) (h : tim cur now = 0) (hok : s.ok) (hn : s.out.length + s.wt <= 1000000) (hbs : (s.run now).b = false) : FSpec prog 169 #[Pt p 0, I now, Ff, I id, .string text] (OutP p s m0 m1 d0 d1 cur) (fun _ : Unit => True) (fun _ => I 0) (fun _ => OutP p { (s.run now) with b := true, go := mB (⟨id, text⟩ : Wt) now } m0 m1 d0 d1 now) := by
 have hb : 0 <= now /\ now <= 1125899906842624 := wG h
 refine en func169 r fun _ F=>gh fun x =>dY _ (ak _ _ _)<|aE r<|sb r<|cy (mQ p (.slice x.1.1 s.h.length x.1.2) (.slice x.2.1.1 s.l.length x.2.1.2) (I m0) (I m1) (I d0) (I d1) (.bool s.b) (I s.go.id) (.string s.go.tx) (I s.go.b) (I s.go.e) (.slice x.2.2.1 s.out.length x.2.2.2) cur now) r fun _=>an r<|js<|jb<|sa r<|lv ((bs r r).bool_f (fun n => n h)) r<|an r<|cf r<|sa r<|lv (aX r) r<|lv ((bt r r).bool_f hl) r<|an r<|cf r<|cY<|sb r<|uP (aa (OutP p s m0 m1 d0 d1 cur) (F)) (ij x)<|cy (ru p s m0 m1 d0 d1 cur now (by omega) hok hn) r fun _=>yM fun x =>ue _ (ak _ _ _)<|nr<|eb r<|lv (af r) r<|ea r<|cy tj r fun _=>cj<|al r fun b12=>so r r<|an r<|js<|jb<|js ?_
 rw [hbs]
 refine jg<|eb r<|fz r<|ld r r<|lv (fF r) r<|an r<|ct r<|jg<|eb r<|ls r<|cy (ic p (.slice x.1.1 (s.run now).h.length x.1.2) (.slice x.2.1.1 (s.run now).l.length x.2.1.2) (I m0) (I m1) (I d0) (I d1) (.slice x.2.2.1 (s.run now).out.length x.2.2.2) (I now) false (s.run now).go now (⟨id, text⟩ : Wt) (by omega) (by show text.size <= 1518; omega)) r fun _=>ln<|kb<|kt<|aE r<|jr ?_
 exact aD rfl rfl () trivial (rfl) (Ent.trans Ent.take (OutP.fold (s := ⟨(s.run now).h, (s.run now).l, true, ⟨id, text, now, now + ((text.size : Int) + 20)⟩, (s.run now).out⟩) x))
end Mq
end Go.Proofs.YtpkcniedaabpoaaGreat
