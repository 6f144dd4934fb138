/- Rules of a separation logic over the model, and what functions of the translation do; used by the texts that import this one. -/
import Derived.Test.YtpkcniedaabpoaaGreatRows
import Derived.Test.YtpkcniedaabpoaaGreatM4
set_option linter.unusedVariables false
set_option linter.unusedSimpArgs false
namespace Go.Proofs.YtpkcniedaabpoaaGreat
open Go.SLA Go.Proofs.Tryz
set_option maxRecDepth 100000
attribute [local irreducible] FSpec J K L OpV OpX QL Rd Rg bd
section
variable {ty : TypeId} {pos : String} {aft : Array Edge} {g : Option (Nat × Bool)} {x : Operand} {t m b k a c d : Nat} {vs : List Value} {l : List Nat}
def eZ (w : Nat) : Value := U8 (w : Nat)
section
variable {prog : Program} {σ : World} {n : Nat} {E : Env} {P R : ab}
theorem dk {y : Operand} {te : Nat} {v : Value} {l : List Value} [Siz prog t m] (hx : ev E x = some (Pt b 0)) (hy : ev E y = some v) [hc : Cel v vs] (hl : vs.length = m) (h1 : ∀ u ∈ vs, u.oneCell' = true) [hk : Look P b l te R] (hm : l.length = m) :
  OpX prog σ n E P ⟨none, .store t x y, ty, pos, aft, g⟩ (fun _ : Unit => True) (fun _ => E) (fun _ => (aa (am b vs te) (R))) :=
 iv hx hy hl h1 (by rw [hl, hm, Nat.zero_add]; exact Nat.le_refl _) (by
  rw [List.take_zero, List.nil_append, List.drop_eq_nil_of_le (by rw [hl, hm, Nat.zero_add]; exact Nat.le_refl _), List.append_nil])
theorem dQ {d : Option Tmp} {te : TypeId} [Agg prog t m] (hx : ev E x = some (Pt b 0)) [Look P b vs te R] (hl : vs.length = m) :
 OpV prog σ n E P ⟨d, .load t x, ty, pos, aft, g⟩ (.agg vs.toArray) := br hx hl fun j u hj => aC (by rw [Nat.zero_add]; exact hj)
end
def Bys (k : Nat) (l : List Nat) : Prop := l.length = k /\ ∀ w ∈ l, w < 256
def ag (l : List Nat) : Value := .agg (l.map eZ).toArray
instance : Cel (ag l) (l.map eZ) := inferInstanceAs (Cel (.agg (l.map eZ).toArray) (l.map eZ))
theorem et (l : List Nat) : ∀ u ∈ l.map eZ, u.oneCell' = true := by
 intro u hu
 obtain ⟨_, _, rfl⟩ := List.mem_map.1 hu
 rfl
theorem da (h : Bys k l) : (l.map eZ).length = k := by rw [List.length_map, h.1]
def tx (l : List Nat) : ByteArray := aY (l.map fun w => ((w : Nat) : Int))
theorem Bys.cons (h : Bys (k + 1) l) : ∃ w l', l = w :: l' /\ w < 256 /\ Bys k l' := by
 obtain ⟨h1, h2⟩ := h
 match l, h1 with
 | w :: l', h1 => exact ⟨w, l', rfl, h2 w List.mem_cons_self, by simpa using h1, fun x hx => h2 x (List.mem_cons_of_mem _ hx)⟩
theorem Bys.six (h : Bys 6 l) : ∃ a b c d e f, l = [a, b, c, d, e, f] /\ a < 256 /\ b < 256 /\ c < 256 /\ d < 256 /\ e < 256 /\ f < 256 := by
 obtain ⟨a, _, rfl, ha, h⟩ := h.cons
 obtain ⟨b, _, rfl, hb, h⟩ := h.cons
 obtain ⟨c, _, rfl, hc, h⟩ := h.cons
 obtain ⟨d, _, rfl, hd, h⟩ := h.cons
 obtain ⟨e, _, rfl, he, h⟩ := h.cons
 obtain ⟨f, l, rfl, hf, h⟩ := h.cons
 obtain rfl := List.eq_nil_of_length_eq_zero h.1
 exact ⟨a, b, c, d, e, f, rfl, ha, hb, hc, hd, he, hf⟩
theorem Bys.four (h : Bys 4 l) : ∃ a b c d, l = [a, b, c, d] /\ a < 256 /\ b < 256 /\ c < 256 /\ d < 256 := by
 obtain ⟨a, _, rfl, ha, h⟩ := h.cons
 obtain ⟨b, _, rfl, hb, h⟩ := h.cons
 obtain ⟨c, _, rfl, hc, h⟩ := h.cons
 obtain ⟨d, l, rfl, hd, h⟩ := h.cons
 obtain rfl := List.eq_nil_of_length_eq_zero h.1
 exact ⟨a, b, c, d, rfl, ha, hb, hc, hd⟩
def eL (n : Int) : List Nat × Int := if 1 <= n /\ n <= 65535 then ([3, 0, 0, 0, n.toNat / 256 % 256, n.toNat % 256], 0) else ([0, 0, 0, 0, 0, 0], 1)
def eI (n k : Int) : List Nat × Int := if 0 <= n /\ n <= 4095 /\ 0 <= k /\ k <= 1 then ([2, 0, 0, n.toNat / 256 % 256, n.toNat % 256, 32 * (k.toNat + 1)], 0) else ([0, 0, 0, 0, 0, 0], 1)
def mZ (n k : Int) : List Nat × Int := if 0 <= n /\ n <= 4095 /\ 0 <= k /\ k <= 255 then ([10, n.toNat / 256 % 256, n.toNat % 256, k.toNat], 0) else ([0, 0, 0, 0], 1)
def vm (n : Int) : List Nat × Int := if 1 <= n /\ n <= 65535 then ([224, 224, n.toNat / 256 % 256, n.toNat % 256], 0) else ([0, 0, 0, 0], 1)
def Hl (k : Nat) (p : List Nat × Int) : Prop := Bys k p.1 /\ (p.2 = 0 \/ p.2 = 1 /\ p.1 = List.replicate k 0)
theorem vA {e f : Nat} (h : a < 256 /\ b < 256 /\ c < 256 /\ d < 256 /\ e < 256 /\ f < 256) : Bys 6 [a, b, c, d, e, f] := ⟨rfl, by simpa using h⟩
theorem Aj (h : a < 256 /\ b < 256 /\ c < 256 /\ d < 256) : Bys 4 [a, b, c, d] := ⟨rfl, by simpa using h⟩
theorem gb (n : Int) : Hl 6 (eL n) := by
 unfold eL; split
 ·exact ⟨vA (by omega), .inl rfl⟩
 ·exact ⟨vA (by omega), .inr ⟨rfl, rfl⟩⟩
theorem ff (n k : Int) : Hl 6 (eI n k) := by
 unfold eI; split
 ·exact ⟨vA (by omega), .inl rfl⟩
 ·exact ⟨vA (by omega), .inr ⟨rfl, rfl⟩⟩
theorem pU (n k : Int) : Hl 4 (mZ n k) := by
 unfold mZ; split
 ·exact ⟨Aj (by omega), .inl rfl⟩
 ·exact ⟨Aj (by omega), .inr ⟨rfl, rfl⟩⟩
theorem ka (n : Int) : Hl 4 (vm n) := by
 unfold vm; split
 ·exact ⟨Aj (by omega), .inl rfl⟩
 ·exact ⟨Aj (by omega), .inr ⟨rfl, rfl⟩⟩
def Hi (p : List Nat × Int) : Value := .tuple #[ag p.1, I p.2]
theorem jc {n : Int} (h : 0 <= n) : ∃ m : Nat, n = (m : Int) := ⟨n.toNat, by omega⟩
theorem j2 (n : Int) : FSpec Tryz.prog 36 #[I n] emp (fun _ : Unit => True) (fun _ => Hi (eL n)) (fun _ => emp) := by
 by_cases h : 1 <= n /\ n <= 65535
 ·obtain ⟨m, rfl⟩ := jc (n := n) (by omega)
  unfold eL; rw [if_pos h]; exact AW m (by omega)
 ·unfold eL; rw [if_neg h]; exact yK n h
theorem mK (n : Int) : FSpec Tryz.prog 6 #[I n] emp (fun _ : Unit => True) (fun _ => Hi (vm n)) (fun _ => emp) := by
 by_cases h : 1 <= n /\ n <= 65535
 ·obtain ⟨m, rfl⟩ := jc (n := n) (by omega)
  unfold vm; rw [if_pos h]; exact yR m (by omega)
 ·unfold vm; rw [if_neg h]; exact wi n h
theorem ig (n k : Int) : FSpec Tryz.prog 37 #[.agg [I n, I k].toArray] emp (fun _ : Unit => True) (fun _ => Hi (eI n k)) (fun _ => emp) := by
 by_cases h : 0 <= n /\ n <= 4095 /\ 0 <= k /\ k <= 1
 ·obtain ⟨m, rfl⟩ := jc (n := n) (by omega)
  obtain ⟨q, rfl⟩ := jc (n := k) (by omega)
  unfold eI; rw [if_pos h]; exact vT m q (by omega) (by omega)
 ·unfold eI; rw [if_neg h]; exact tT n k h
theorem yC (n k : Int) : FSpec Tryz.prog 5 #[I n, I k] emp (fun _ : Unit => True) (fun _ => Hi (mZ n k)) (fun _ => emp) := by
 by_cases h : 0 <= n /\ n <= 4095 /\ 0 <= k /\ k <= 255
 ·obtain ⟨m, rfl⟩ := jc (n := n) (by omega)
  obtain ⟨q, rfl⟩ := jc (n := k) (by omega)
  unfold mZ; rw [if_pos h]; exact AN m q (by omega) (by omega)
 ·unfold mZ; rw [if_neg h]; exact yB n k h
end
section
variable {fn : Func} {t u s : Tmp} {r l : List Nat} {w v n k : Nat}
section
variable {prog : Program} {σ : World} {n : Nat} {E : Env} {P R F : ab}
theorem pQ {r : Tmp} (h : fn.results = #[.tmp t, .tmp u, .tmp s, .tmp r]) (tmps : Array Value) (P : Program) (w : World) :
  (results fn tmps).run P w = .ok (.tuple #[tmps.getD t undef, tmps.getD u undef, tmps.getD s undef, tmps.getD r undef]) w := by
 simp [results, h]
theorem kY {r : Tmp} {v v' v'' v3 : Value} {X : Type} {φ : X -> Prop} {val : X -> Value} {Qo : X -> ab} (hr : fn.results = #[.tmp t, .tmp u, .tmp s, .tmp r]) (hv : Env.get E t = some v) (hv' : Env.get E u = some v') (hv'' : Env.get E s = some v'') (hv3 : Env.get E r = some v3) (x : X) (hx : φ x)
  (hvx : .tuple #[v, v', v'', v3] = val x) (hp : Ent P (aa (Qo x) (F))) : K σ n (bodyPost prog fn (bd σ φ val Qo F)) .ret E P := by
 unfold K bd
 exact fun a w ha hs =>
 ⟨ha.defers, _, pQ hr a.tmps prog w, x, hx, by
  rw [Array.getD_eq_getD_getElem?, Array.getD_eq_getD_getElem?, Array.getD_eq_getD_getElem?, Array.getD_eq_getD_getElem?, ha.slot t v hv, ha.slot u v' hv', ha.slot s v'' hv'', ha.slot r v3 hv3]; exact congrArg _ hvx, hs.ent hp⟩
end
def dL (a b : Nat) : Nat := 256 * a + b
theorem IJ {a b : Nat} (ha : a < 256) (hb : b < 256) : I (IntKind.i64.wrap ((BitVec.ofInt IntKind.i64.bits ((256 * a : Nat) : Int) ||| BitVec.ofInt IntKind.i64.bits ((b : Nat) : Int)).toNat : Int)) = I ((dL a b : Nat) : Int) := by
 rw [show IntKind.i64.bits = 64 from rfl, BitVec.ofInt_natCast, BitVec.ofInt_natCast, BitVec.toNat_or, BitVec.toNat_ofNat, BitVec.toNat_ofNat, Nat.mod_eq_of_lt (by omega), Nat.mod_eq_of_lt (by omega)]
 have h := Nat.shiftLeft_add_eq_or_of_lt (i := 8) (b := b) (by omega) a
 rw [Nat.shiftLeft_eq, show a * 2 ^ 8 = 256 * a by omega] at h
 rw [<- h, jI (by omega)]
 rfl
theorem rX (h : l.map eZ = r.map eZ) : l = r := by
 refine List.map_inj_right ?_ |>.1 h
 intro a b hab
 simp only [eZ, Value.int.injEq, true_and] at hab
 omega
theorem iq (l : List Nat) : (tx l).size = l.length := by unfold tx; rw [aZ, List.length_map]
theorem CT {i : Nat} (h : l[i]? = some w) (hw : w < 256) : qr (tx l) i = (w : Int) := by
 unfold qr tx aY
 simp only [List.map_map, List.getD_eq_getElem?_getD, List.getElem?_map, h, Option.map_some, Option.getD_some, Function.comp_apply, Int.toNat_natCast]
 rw [show (UInt8.ofNat w).toNat = w from by rw [UInt8.toNat_ofNat']; omega]
theorem mo (h : Bys 6 l) : Shape [.int .u8, .int .u8, .int .u8, .int .u8, .int .u8, .int .u8] (l.map eZ) := by
 obtain ⟨a, b, c, d, e, f, rfl, _⟩ := h.six
 simp [Shape, CK.sh, eZ]
theorem mp (h : Bys 4 l) : Shape [.int .u8, .int .u8, .int .u8, .int .u8] (l.map eZ) := by
 obtain ⟨a, b, c, d, rfl, _⟩ := h.four
 simp [Shape, CK.sh, eZ]
section
variable {p : List Nat × Int} {l : List Nat} {k : Nat}
theorem wx (h1 : ¬ p.2 ≠ 0) (h2 : ¬ (p.1 ≠ l)) : p = (l, 0) := Prod.ext (Classical.not_not.1 h2) (Classical.not_not.1 h1)
theorem va (h : p.2 ≠ 0 \/ p.1 ≠ l) : p ≠ (l, 0) := by rintro rfl; simp at h
theorem wy (h1 : p.2 = 0) (h2 : p.1 = l) : p = (l, 0) := Prod.ext h2 h1
theorem oH (h : ¬ p.2 = 0 \/ ¬ p.1 = l) : p ≠ (l, 0) := by rintro rfl; simp at h
open Classical in
theorem H0 : Value.bool (decide (l.map eZ = r.map eZ)) = .bool (@decide (l = r) (instDecidableEqList l r)) := congrArg _ (decide_eq_decide.2 ⟨rX, fun h => by rw [h]⟩)
open Classical in
theorem HP : Value.bool (decide (l.map eZ ≠ r.map eZ)) = .bool (@decide (l ≠ r) instDecidableNot) := congrArg _ (decide_eq_decide.2 ⟨fun h e => h (by rw [e]), fun h e => h (rX e)⟩)
end
def Ei (l : List Nat) (v : Nat) : Int × Int := if eL v = (l, 0) then ((v : Nat), 0) else (0, 14)
theorem um (h : eL v = (l, 0)) : Ei l v = (((v : Nat) : Int), 0) := if_pos h
theorem wC (h : eL v ≠ (l, 0)) : Ei l v = (0, 14) := if_neg h
def Fa (l : List Nat) (n : Nat) (k : Int) : Int × Int × Int := if eI n k = (l, 0) then ((n : Nat), k, 0) else (0, 0, 14)
theorem qd {k : Int} (h : eI n k = (l, 0)) : Fa l n k = (((n : Nat) : Int), k, 0) := if_pos h
theorem qg {k : Int} (h : eI n k ≠ (l, 0)) : Fa l n k = (0, 0, 14) := if_neg h
def za (l : List Nat) (n k v : Nat) : Int × Int × Int × Int := if mZ n k = (l, 0) then ((n : Nat), (k : Nat), 0, 0) else if vm v = (l, 0) then (0, 0, (v : Nat), 0) else (0, 0, 0, 14)
theorem Eh (h : mZ n k = (l, 0)) : za l n k v = (((n : Nat) : Int), ((k : Nat) : Int), 0, 0) := if_pos h
theorem Bl (h : mZ n k ≠ (l, 0)) (h2 : vm v = (l, 0)) : za l n k v = (0, 0, ((v : Nat) : Int), 0) := by unfold za; rw [if_neg h, if_pos h2]
theorem ul (h : mZ n k ≠ (l, 0)) (h2 : vm v ≠ (l, 0)) : za l n k v = (0, 0, 0, 14) := by unfold za; rw [if_neg h, if_neg h2]
theorem lH (a b : Nat) (ha : a < 256) (hb : b < 256) : FSpec Tryz.prog 114 #[U8 (a : Nat), U8 (b : Nat)] (emp) (fun _ : Unit => True) (fun _ => I ((dL a b : Nat) : Int)) (fun _ => emp) := by
 refine en Tryz.func114 r fun _ F=>aE r<|sa r<|lv ((bw r (Go.IntWalk.i64_in _ (by omega))).as (v' := I ((a : Nat) : Int)) r) r<|lv ((gC r r (by decide)).as (v' := I ((256 * a : Nat) : Int)) (congrArg (Value.int .i64) (by show IntKind.i64.wrap ((a : Int) * 256) = _; rw [jI (by omega)]; omega))) r<|ea r<|lv ((bw r (Go.IntWalk.i64_in _ (by omega))).as (v' := I ((b : Nat) : Int)) r) r<|lv ((s9 r r).as (IJ ha hb)) r<|an r<|jr ?_
 exact aD rfl rfl () trivial (rfl) (ah _)
theorem Db (a b c d e f : Nat) (hb : Bys 6 [a, b, c, d, e, f]) : FSpec Tryz.prog 75 #[ag [a, b, c, d, e, f]] (emp) (fun _ : Unit => True) (fun _ => .tuple #[I (Ei [a, b, c, d, e, f] (dL e f)).1, I (Ei [a, b, c, d, e, f] (dL e f)).2]) (fun _ => emp) := by
 refine en Tryz.func75 r fun _ F=>bG ?_
 have hq : a < 256 /\ b < 256 /\ c < 256 /\ d < 256 /\ e < 256 /\ f < 256 := by have := hb.2; simp at this; omega
 refine sr<|lx r (aV (l := [a, b, c, d, e, f].map eZ) r r) fun b1 _=>eb r<|nr<|lv ((aK r r (by decide)).as (v' := Pt b1 4) r) r<|lv (ar (v := U8 ((e : Nat) : Int)) r (aC r)) r<|lv ((aK r r (by decide)).as (v' := Pt b1 5) r) r<|lv (ar (v := U8 ((f : Nat) : Int)) r (aC r)) r<|cy (lH e f (by omega) (by omega)) r fun _=>cj<|an r<|js<|sa r<|cy (j2 (dL e f)) r fun _=>cj<|ea r<|lv (ap (v := ag (eL (dL e f)).1) r r) r<|lv (ap (v := I (eL (dL e f)).2) r r) r<|al r fun b5=>lx r (dk (m := 6) r r (da (gb (dL e f)).1) (et _) r) fun _ _=>an r<|sa r<|lv (bs r r) r<|ea r ?_
 refine il rfl rfl (fun h1 => ?_) (fun h1 => ?_) (fun _ h => by cases h; rfl)
 ·refine lv (dQ r (da (gb (dL e f)).1)) r<|bR h1 r r<|lv (dQ r r) r<|bR h1 r r<|lv ((hY r r (mo (gb (dL e f)).1) (mo hb)).as HP) r<|lv (bo r h1 r) r<|nk ?_
  refine aG rfl (fun h2 => ?_) (fun h2 => ?_)
  ·refine sb r<|nk<|jr<|kd ?_
   exact cH rfl rfl rfl () trivial (by rw [wC (va (by exact .inr (by assumption)))]) Ent.take
  ·refine sk<|sr<|ec r<|nk<|jr ?_
   exact cH rfl rfl rfl () trivial (by rw [um (wx (by assumption) (by assumption))]) Ent.take
 ·refine jf h1 rfl ?_
  refine jf h1 rfl<|lv (bi r h1 r) r<|nt r<|sb r<|nk<|jr<|kd ?_
  exact cH rfl rfl rfl () trivial (by rw [wC (va (by exact .inl (by assumption)))]) Ent.take
theorem II (h : w < 256) : U8 (IntKind.u8.wrap (Int.tdiv (w : Int) 32)) = U8 ((w / 32 : Nat) : Int) := by
 rw [Int.tdiv_eq_ediv_of_nonneg (by omega), IntKind.wrap_u8]
 exact congrArg _ (by omega)
theorem DM (a b c d e f : Nat) (hb : Bys 6 [a, b, c, d, e, f]) : FSpec Tryz.prog 76 #[ag [a, b, c, d, e, f]] (emp) (fun _ : Unit => True) (fun _ => .tuple #[.agg [I (Fa [a, b, c, d, e, f] (dL d e) (((f / 32 : Nat) : Int) - 1)).1, I (Fa [a, b, c, d, e, f] (dL d e) (((f / 32 : Nat) : Int) - 1)).2.1].toArray, I (Fa [a, b, c, d, e, f] (dL d e) (((f / 32 : Nat) : Int) - 1)).2.2]) (fun _ => emp) := by
 refine en Tryz.func76 r fun _ F=>bG ?_
 have hq : a < 256 /\ b < 256 /\ c < 256 /\ d < 256 /\ e < 256 /\ f < 256 := by have := hb.2; simp at this; omega
 refine sr<|lx r (aV (l := [a, b, c, d, e, f].map eZ) r r) fun b1 _=>al r fun b2=>an r<|js<|av (am b1 ([a, b, c, d, e, f].map eZ) 102) (am b1 ([a, b, c, d, e, f].map eZ) 102) [] ae<|ps 0 r ((aK r r (by decide)).as (v' := Pt b1 3) r)<|dv 1 r (by kernel_rfl) (ar (v := U8 ((d : Nat) : Int)) r (aC r)) r<|ps 2 r ((aK r r (by decide)).as (v' := Pt b1 4) r)<|dv 3 r (by kernel_rfl) (ar (v := U8 ((e : Nat) : Int)) r (aC r)) r<|ps 5 r ((aK r r (by decide)).as (v' := Pt b1 5) r)<|dv 6 r (by kernel_rfl) (ar (v := U8 ((f : Nat) : Int)) r (aC r)) r<|ps 7 r ((p8 r r (by decide)).as (II (by omega)))<|ps 8 r ((bw r (Go.IntWalk.i64_in _ (by omega))).as (v' := I ((f / 32 : Nat) : Int)) r)<|ps 9 r ((bm r r (by omega)))<|fk [4, 11] (by kernel_rfl) rfl fun i hi => ?_
 simp only [List.mem_cons, List.not_mem_nil, or_false] at hi
 rcases hi with rfl | rfl
 ·refine ⟨_, _, _, _, _, rfl, rfl, (ai (lH d e (by omega) (by omega)) rfl rfl rfl), fun _ _ => ⟨⟨_, Take.eq (A := am b1 ([a, b, c, d, e, f].map eZ) 102)⟩, .inr ⟨_, Take.eq (A := am b1 ([a, b, c, d, e, f].map eZ) 102)⟩, ?_⟩⟩
  refine kW<|ps 10 r (af r)<|pn 11 r (bq r) fun b4 _=>pn 12 r (dU r r r) fun _ _=>dn<|kt<|js<|sr<|ls r<|cy (ig (dL d e : Nat) (((f / 32 : Nat) : Int) - 1)) r fun _=>cj<|ea r<|lv (ap (v := ag (eI (dL d e : Nat) (((f / 32 : Nat) : Int) - 1)).1) r r) r<|lv (ap (v := I (eI (dL d e : Nat) (((f / 32 : Nat) : Int) - 1)).2) r r) r<|al r fun b5=>lx r (dk (m := 6) r r (da (ff (dL d e : Nat) (((f / 32 : Nat) : Int) - 1)).1) (et _) r) fun _ _=>an r<|sa r<|lv (bs r r) r<|ea r ?_
  refine il rfl rfl (fun h1 => ?_) (fun h1 => ?_) (fun _ h => by cases h; rfl)
  ·refine lv (dQ r (da (ff _ _).1)) r<|bR h1 r r<|lv (dQ r r) r<|bR h1 r r<|lv ((hY r r (mo (ff _ _).1) (mo hb)).as HP) r<|lv (bo r h1 r) r<|nk ?_
   refine aG rfl (fun h2 => ?_) (fun h2 => ?_)
   ·refine sr<|lv (af r) r ?_
    refine so r r<|an r<|jr<|kd ?_
    exact cw rfl rfl rfl rfl () trivial (by rw [qg (va (by exact .inr (by assumption)))]) Ent.take
   ·refine sk<|sr<|ls r ?_
    refine so r r<|an r<|jr ?_
    exact cw rfl rfl rfl rfl () trivial (by rw [qd (wx (by assumption) (by assumption))]) Ent.take
  ·refine jf h1 rfl ?_
   refine jf h1 rfl<|lv (bi r h1 r) r<|nt r<|sr<|lv (af r) r<|so r r<|an r<|jr<|kd ?_
   exact cw rfl rfl rfl rfl () trivial (by rw [qg (va (by exact .inl (by assumption)))]) Ent.take
 ·refine ⟨_, _, _, _, _, rfl, rfl, (bq rfl), fun b4 _ => ⟨⟨_, Take.eq (A := am b1 ([a, b, c, d, e, f].map eZ) 102)⟩, .inr ⟨_, Take.eq (A := am b1 ([a, b, c, d, e, f].map eZ) 102)⟩, ?_⟩⟩
  refine pn 4 r (ai (lH d e (by omega) (by omega)) r r r) fun _ _=>kW<|ps 10 r (af r)<|pn 12 r (dU r r r) fun _ _=>dn<|kt<|js<|sr<|ls r<|cy (ig (dL d e : Nat) (((f / 32 : Nat) : Int) - 1)) r fun _=>cj<|ea r<|lv (ap (v := ag (eI (dL d e : Nat) (((f / 32 : Nat) : Int) - 1)).1) r r) r<|lv (ap (v := I (eI (dL d e : Nat) (((f / 32 : Nat) : Int) - 1)).2) r r) r<|al r fun b5=>lx r (dk (m := 6) r r (da (ff (dL d e : Nat) (((f / 32 : Nat) : Int) - 1)).1) (et _) r) fun _ _=>an r<|sa r<|lv (bs r r) r<|ea r ?_
  refine il rfl rfl (fun h3 => ?_) (fun h3 => ?_) (fun _ h => by cases h; rfl)
  ·refine lv (dQ r (da (ff _ _).1)) r<|bR h3 r r<|lv (dQ r r) r<|bR h3 r r<|lv ((hY r r (mo (ff _ _).1) (mo hb)).as HP) r<|lv (bo r h3 r) r<|nk ?_
   refine aG rfl (fun h4 => ?_) (fun h4 => ?_)
   ·refine sr<|lv (af r) r ?_
    refine so r r<|an r<|jr<|kd ?_
    exact cw rfl rfl rfl rfl () trivial (by rw [qg (va (by exact .inr (by assumption)))]) Ent.take
   ·refine sk<|sr<|ls r ?_
    refine so r r<|an r<|jr ?_
    exact cw rfl rfl rfl rfl () trivial (by rw [qd (wx (by assumption) (by assumption))]) Ent.take
  ·refine jf h3 rfl ?_
   refine jf h3 rfl<|lv (bi r h3 r) r<|nt r<|sr<|lv (af r) r<|so r r<|an r<|jr<|kd ?_
   exact cw rfl rfl rfl rfl () trivial (by rw [qg (va (by exact .inl (by assumption)))]) Ent.take
theorem vM (c d e f : Nat) (hb : Bys 4 [c, d, e, f]) : FSpec Tryz.prog 241 #[ag [c, d, e, f]] (emp) (fun _ : Unit => True) (fun _ => .tuple #[I (za [c, d, e, f] (dL d e) f (dL e f)).1, I (za [c, d, e, f] (dL d e) f (dL e f)).2.1, I (za [c, d, e, f] (dL d e) f (dL e f)).2.2.1, I (za [c, d, e, f] (dL d e) f (dL e f)).2.2.2]) (fun _ => emp) := by
 refine en Tryz.func241 r fun _ F=>bG ?_
 have hq : c < 256 /\ d < 256 /\ e < 256 /\ f < 256 := by have := hb.2; simp at this; omega
 refine sr<|lx r (aV (l := [c, d, e, f].map eZ) r r) fun b1 _=>ed r<|nj<|dM ae<|qv ((aK r r (by decide)).as (v' := Pt b1 1) r) r<|qv (ar (v := U8 ((d : Nat) : Int)) r (aC r)) r<|qv ((aK r r (by decide)).as (v' := Pt b1 2) r) r<|qv (ar (v := U8 ((e : Nat) : Int)) r (aC r)) r<|dy (lH d e (by omega) (by omega)) r r (fun _ _ => r) (fun _ _ => ah _) r<|qv ((aK r r (by decide)).as (v' := Pt b1 3) r) r<|qv (ar (v := U8 ((f : Nat) : Int)) r (aC r)) r<|qv ((bw r (Go.IntWalk.i64_in _ (by omega))).as (v' := I ((f : Nat) : Int)) r) r<|qv ((aK r r (by decide)).as (v' := Pt b1 2) r) r<|qv (ar (v := U8 ((e : Nat) : Int)) r (aC r)) r<|qv ((aK r r (by decide)).as (v' := Pt b1 3) r) r<|qv (ar (v := U8 ((f : Nat) : Int)) r (aC r)) r<|dy (lH e f (by omega) (by omega)) r r (fun _ _ => r) (fun _ _ => ah _) r<|qb r<|qa r<|qn<|kt<|js<|sb r<|cy (yC (dL d e : Nat) (f : Nat)) r fun _=>cj<|ea r<|lv (ap (v := ag (mZ (dL d e : Nat) (f : Nat)).1) r r) r<|lv (ap (v := I (mZ (dL d e : Nat) (f : Nat)).2) r r) r<|al r fun b6=>lx r (dk (m := 4) r r (da (pU (dL d e : Nat) (f : Nat)).1) (et _) r) fun _ _=>an r<|sa r<|lv (cv r r) r<|ea r ?_
 refine sO rfl rfl (fun h1 => ?_) (fun h1 => ?_) (fun _ h => by cases h; rfl)
 ·refine lv (dQ r (da (pU _ _).1)) r<|cT h1 r r<|lv (dQ r r) r<|cT h1 r r<|lv ((gI r r (mp (pU _ _).1) (mp hb)).as H0) r<|lv (bi r h1 r) r<|nk ?_
  refine aG rfl (fun h2 => ?_) (fun h2 => ?_)
  ·refine sr<|ed r<|eb r<|nk<|jr<|kd ?_
   exact kY rfl rfl rfl rfl rfl () trivial (by rw [Eh (wy (by assumption) (by assumption))]) Ent.take
  ·refine sk<|js<|sa r<|cy (mK (dL e f : Nat)) r fun _=>cj<|ea r<|lv (ap (v := ag (vm (dL e f : Nat)).1) r r) r<|lv (ap (v := I (vm (dL e f : Nat)).2) r r) r<|al r fun b8=>?_
   refine lx r (dk (m := 4) r r (da (ka (dL e f : Nat)).1) (et _) r) fun _ _=>an r<|sa r<|lv (cv r r) r<|ea r ?_
   refine sO rfl rfl (fun h3 => ?_) (fun h3 => ?_) (fun _ h => by cases h; rfl)
   ·refine lv (dQ r (da (ka _).1)) r<|cT h3 r r<|lv (dQ r r) r<|cT h3 r r<|lv ((gI r r (mp (ka _).1) (mp hb)).as H0) r<|lv (bi r h3 r) r<|nk ?_
    refine aG rfl (fun h4 => ?_) (fun h4 => ?_)
    ·refine sr<|ed r<|an r<|jr<|kd ?_
     exact kY rfl rfl rfl rfl rfl () trivial (by rw [Bl (oH (by exact .inr (by assumption))) (wy (by assumption) (by assumption))]) Ent.take
    ·refine sk<|sr<|ed r<|nk<|jr ?_
     exact kY rfl rfl rfl rfl rfl () trivial (by rw [ul (oH (by exact .inr (by assumption))) (oH (by exact .inr (by assumption)))]) Ent.take
   ·refine cJ h3 rfl rfl ?_ (fun _ h => by cases h; rfl)
    refine cJ h3 rfl rfl ?_ (fun _ h => by cases h; rfl)
    refine lv (bo r h3 r) r<|nf r<|sk<|sr<|ed r<|nk<|jr ?_
    exact kY rfl rfl rfl rfl rfl () trivial (by rw [ul (oH (by exact .inr (by assumption))) (oH (by exact .inl (by assumption)))]) Ent.take
 ·refine cJ h1 rfl rfl ?_ (fun _ h => by cases h; rfl)
  refine cJ h1 rfl rfl ?_ (fun _ h => by cases h; rfl)
  refine lv (bo r h1 r) r<|nf r<|sk<|js<|sa r<|cy (mK (dL e f : Nat)) r fun _=>cj<|ea r<|lv (ap (v := ag (vm (dL e f : Nat)).1) r r) r<|lv (ap (v := I (vm (dL e f : Nat)).2) r r) r<|al r fun b8=>lx r (dk (m := 4) r r (da (ka (dL e f : Nat)).1) (et _) r) fun _ _=>an r<|sa r<|lv (cv r r) r<|ea r ?_
  refine sO rfl rfl (fun h5 => ?_) (fun h5 => ?_) (fun _ h => by cases h; rfl)
  ·refine lv (dQ r (da (ka _).1)) r<|cT h5 r r<|lv (dQ r r) r<|cT h5 r r<|lv ((gI r r (mp (ka _).1) (mp hb)).as H0) r<|lv (bi r h5 r) r<|nk ?_
   refine aG rfl (fun h6 => ?_) (fun h6 => ?_)
   ·refine sr<|ed r<|an r<|jr<|kd ?_
    exact kY rfl rfl rfl rfl rfl () trivial (by rw [Bl (oH (by exact .inl (by assumption))) (wy (by assumption) (by assumption))]) Ent.take
   ·refine sk<|sr<|ed r<|nk<|jr ?_
    exact kY rfl rfl rfl rfl rfl () trivial (by rw [ul (oH (by exact .inl (by assumption))) (oH (by exact .inr (by assumption)))]) Ent.take
  ·refine cJ h5 rfl rfl ?_ (fun _ h => by cases h; rfl)
   refine cJ h5 rfl rfl ?_ (fun _ h => by cases h; rfl)
   refine lv (bo r h5 r) r<|nf r<|sk<|sr<|ed r<|nk<|jr ?_
   exact kY rfl rfl rfl rfl rfl () trivial (by rw [ul (oH (by exact .inl (by assumption))) (oH (by exact .inl (by assumption)))]) Ent.take
section
variable {prog : Program} {σ : World} {n : Nat} {E : Env} {P : ab}
end
section
variable {p : List Nat × Int} {l : List Nat} {k : Nat}
end
attribute [local irreducible] tx eL eI mZ vm dL Ei za
end
section
variable {n : Int} {k b c : Nat} {l : List Nat} {e : TypeId} {R : ab}
theorem Cq (h : (eL n).2 = 0) : ∃ m : Nat, n = (m : Int) /\ 1 <= m /\ m <= 65535 /\ eL n = ([3, 0, 0, 0, m / 256 % 256, m % 256], 0) := by
 by_cases hc : 1 <= n /\ n <= 65535
 ·obtain ⟨m, rfl⟩ := jc (n := n) (by omega)
  exact ⟨m, rfl, by omega, by omega, by unfold eL; rw [if_pos hc]; rfl⟩
 ·unfold eL at h; rw [if_neg hc] at h; cases h
theorem Ca {k : Int} (h : (eI n k).2 = 0) : ∃ m q : Nat, n = (m : Int) /\ k = (q : Int) /\ m <= 4095 /\ q <= 1 /\ eI n k = ([2, 0, 0, m / 256 % 256, m % 256, 32 * (q + 1)], 0) := by
 by_cases hc : 0 <= n /\ n <= 4095 /\ 0 <= k /\ k <= 1
 ·obtain ⟨m, rfl⟩ := jc (n := n) (by omega)
  obtain ⟨q, rfl⟩ := jc (n := k) (by omega)
  exact ⟨m, q, rfl, rfl, by omega, by omega, by unfold eI; rw [if_pos hc]; rfl⟩
 ·unfold eI at h; rw [if_neg hc] at h; cases h
theorem Da (h : (eL n).2 = 0) : FSpec prog 75 #[ag (eL n).1] emp (fun _ : Unit => True) (fun _ => .tuple #[I n, I 0]) (fun _ => emp) := by
 obtain ⟨m, rfl, h1, h2, he⟩ := Cq h
 have hn : dL (m / 256 % 256) (m % 256) = m := by unfold dL; omega
 have hs := Db 3 0 0 0 (m / 256 % 256) (m % 256) (vA (by omega))
 rw [um (by rw [hn, he]), hn] at hs
 rw [he]; exact hs
theorem DL {k : Int} (h : (eI n k).2 = 0) : FSpec prog 76 #[ag (eI n k).1] emp (fun _ : Unit => True) (fun _ => .tuple #[.agg [I n, I k].toArray, I 0]) (fun _ => emp) := by
 obtain ⟨m, q, rfl, rfl, h1, h2, he⟩ := Ca h
 have hn : dL (m / 256 % 256) (m % 256) = m := by unfold dL; omega
 have hk : ((32 * (q + 1) / 32 : Nat) : Int) - 1 = (q : Int) := by omega
 have hs := DM 2 0 0 (m / 256 % 256) (m % 256) (32 * (q + 1)) (vA (by omega))
 rw [qd (by rw [hn, hk, he]), hn, hk] at hs
 rw [he]; exact hs
theorem lj (l : List Nat) : l.map eZ = (l.map fun w => ((w : Nat) : Int)).map (.int .u8) := by rw [List.map_map]; rfl
theorem pJ (h : Bys k l) : ∀ v ∈ l.map (fun w => ((w : Nat) : Int)), 0 <= v /\ v < 256 := by
 intro v hv
 obtain ⟨w, hw, rfl⟩ := List.mem_map.1 hv
 have := h.2 w hw
 omega
def oJ (vl h nt sq : Int) (d : ByteArray) : ByteArray := (((tx (eL vl).1 ++ tx (eI h nt).1) ++ be 2048 2) ++ (d ++ fL (45 - d.size))) ++ be sq.toNat 1
def aL (vl h nt sq : Int) (d : ByteArray) : ByteArray := nC (oJ vl h nt sq d)
theorem th (vl : Int) : (eL vl).1.length = 6 := (gb vl).1.1
theorem sZ (h nt : Int) : (eI h nt).1.length = 6 := (ff h nt).1.1
theorem ki (vl h nt sq : Int) (d : ByteArray) : (oJ vl h nt sq d).size = 15 + (d.size + (45 - d.size)) := by
 unfold oJ
 simp only [ByteArray.size_append, iq, th, sZ, bu, eS]
 omega
theorem cB (vl h nt sq : Int) (d : ByteArray) : (aL vl h nt sq d).size = 19 + (d.size + (45 - d.size)) := by
 unfold aL
 rw [nB, ki]
 omega
theorem uO (k : Nat) (hk : k <= 64) : FSpec prog 38 #[.string (⟨#[0]⟩ : ByteArray), I (k : Nat)] emp (fun _ : Unit => True) (fun _ => .string (fL k)) (fun _ => emp) := by
 by_cases h0 : k = 0
 ·subst h0; exact GP ()
 ·by_cases h1 : k = 1
  ·subst h1; exact GO ()
  ·exact GN k (by omega) hk
theorem fit8e {m : Int} : jE m (8 * 1) ↔ 0 <= m /\ m <= 255 := by
 show (0 <= m /\ m / 256 = 0) ↔ _
 omega
theorem H7 (p : Nat) (s : ByteArray) (m : Int) (hk : 0 <= m /\ m <= 255) (hs : s.size <= 1099511627776) : FSpec prog 31 #[Pt p 0, I m] (WrP p s false) (fun _ : Unit => True) (fun _ => .tuple #[]) (fun _ => WrP p (s ++ be m.toNat 1) false) := by
 have h := qB p s false m (by omega) hs
 have e : jK s false m 1 = (s ++ be m.toNat 1, false) := by unfold jK; rw [if_neg (by decide), if_pos (fit8e.2 hk)]
 rw [e] at h
 exact h
set_option maxHeartbeats 800000 in
theorem k6 (vl h nt sq : Int) (d : ByteArray) (hv : (eL vl).2 = 0) (hs : (eI h nt).2 = 0) (hq : 0 <= sq /\ sq <= 255) (hd : d.size <= 1499) : FSpec prog 12 #[.agg [I vl, I h, I nt, I sq, .string d].toArray] (emp) (fun _ : Unit => True) (fun _ => .tuple #[.string (aL vl h nt sq d), I 0]) (fun _ => emp) := by
 have hz1 := iq (eL vl).1
 have hz2 := iq (eI h nt).1
 rw [th] at hz1
 rw [sZ] at hz2
 have hz3 : (tx (eL vl).1 ++ tx (eI h nt).1).size = 12 := by rw [ByteArray.size_append, hz1, hz2]
 have hz4 : ((tx (eL vl).1 ++ tx (eI h nt).1) ++ be 2048 2).size = 14 := by rw [ByteArray.size_append, hz3, bu]
 have hz5 : (d ++ fL (45 - d.size)).size = d.size + (45 - d.size) := by rw [ByteArray.size_append, eS]
 have hz6 : (((tx (eL vl).1 ++ tx (eI h nt).1) ++ be 2048 2) ++ (d ++ fL (45 - d.size))).size = 14 + (d.size + (45 - d.size)) := by rw [ByteArray.size_append, hz4, hz5]
 have hzB := ki vl h nt sq d
 refine en func12 r fun _ F=>bG<|sr<|lx r (aV (l := [I vl, I h, I nt, I sq, .string d]) r r) fun b1 _=>eb r<|nr<|fz r<|ld r r<|cy (j2 vl) r fun _=>cj<|ea r<|lv ((ap (v := ag (eL vl).1) r r)) r<|lv ((ap (v := I (eL vl).2) r r)) r<|al r fun b6=>lx r (dk (m := 6) r r (da (gb vl).1) (et _) r) fun _ _=>an r<|js<|sa r<|lv ((bs r r).bool_f (by simp [hv])) r<|nf r<|sk<|sr<|fz r<|ld r r<|fz r<|ld r r<|lv (af r) r<|cy (ig h nt) r fun _=>cj<|ea r<|lv ((ap (v := ag (eI h nt).1) r r)) r<|lv ((ap (v := I (eI h nt).2) r r)) r<|al r fun b10=>lx r (dk (m := 6) r r (da (ff h nt).1) (et _) r) fun _ _=>an r<|js<|sa r<|lv ((bs r r).bool_f (by simp [hs])) r<|nf r<|sk<|sr<|lv (af r) r<|bx r fun p=>an r<|js<|fC _ kl<|av ((aa (am b6 ((eL vl).1.map eZ) 102) (am b10 ((eI h nt).1.map eZ) 102))) (emp) [] ae<|pe 0 r r<|ps 1 r (eV r)<|ps 2 r ((iM ((eL vl).1.map fun w => ((w : Nat) : Int)) r (lj _) (by rw [List.length_map, th]) (pJ (gb vl).1)).as (v' := .string (tx (eL vl).1)) r)<|ps 3 r (eV r)<|ps 4 r ((iM ((eI h nt).1.map fun w => ((w : Nat) : Int)) r (lj _) (by rw [List.length_map, sZ]) (pJ (ff h nt).1)).as (v' := .string (tx (eI h nt).1)) r)<|ps 5 r (ej r r (by omega))<|pn 6 r (ai (fA p (aY []) (tx (eL vl).1 ++ tx (eI h nt).1) (by decide) (by omega)) r r r) fun _ _=>dn<|kt<|js ?_
 rw [lJ]
 refine jg<|ea r<|cy (iB p (tx (eL vl).1 ++ tx (eI h nt).1) 2048 (by decide) (by omega)) r fun _=>nj<|av (am b1 [I vl, I h, I nt, I sq, .string d] 46) (emp) [] ae<|pe 0 r r<|ps 1 r (aj r)<|pl 2 r r r<|ps 3 r (aj r)<|pl 4 r r r<|ps 5 r (aX r)<|ps 6 r ((bm r r (by omega)))<|ps 7 r ((iw r r).as (v' := I ((45 - d.size : Nat) : Int)) (congrArg (Value.int .i64) (by split <;> omega)))<|pn 8 r (ai (uO (45 - d.size) (by omega)) r r r) fun _ _=>kW<|ps 9 r (ej r r (by rw [eS]; omega))<|pn 10 r (ai (fA p ((tx (eL vl).1 ++ tx (eI h nt).1) ++ be 2048 2) (d ++ fL (45 - d.size)) (by omega) (by omega)) r r r) fun _ _=>dn<|kt<|sa r<|fz r<|ld r r<|cy (H7 p (((tx (eL vl).1 ++ tx (eI h nt).1) ++ be 2048 2) ++ (d ++ fL (45 - d.size))) sq hq (by omega)) r fun _=>nj ?_
 rw [show (((tx (eL vl).1 ++ tx (eI h nt).1) ++ be 2048 2) ++ (d ++ fL (45 - d.size))) ++ be sq.toNat 1 = oJ vl h nt sq d from rfl]
 refine jg<|ea r<|cy (im p (oJ vl h nt sq d)) r fun _=>ea r<|lv (ap r r) r<|lv (ap r r) r<|eb r<|nj<|jb<|sa r<|bJ r<|an r<|cf r<|sr<|fz r<|ld r r<|lv (aX r) r<|bJ r<|an r<|cf r<|cY<|sa r<|cy (px (oJ vl h nt sq d) (by omega)) r fun _=>cj<|eb r<|nk<|jr ?_
 exact cH rfl rfl rfl () trivial rfl (by rw [bN]; exact (Ent.trans (Ent.take (Q := (aa (am b1 [I vl, I h, I nt, I sq, .string d] 46) (F)))) Ent.drop))
theorem iW (p : Nat) (a b : ByteArray) (m : Nat) (h : a.size = m) : FSpec prog 44 #[Pt p 0, I m] (am p [.string (a ++ b), I 0] 176) (fun _ : Unit => True) (fun _ => .string a) (fun _ => am p [.string b, I 0] 176) := by
 have hs := oq p (a ++ b) m (by rw [ByteArray.size_append]; omega)
 rwa [ByteArray.extract_append_eq_left h.symm, ByteArray.extract_append_eq_right h.symm (by rw [ByteArray.size_append])] at hs
theorem yr (p k : Nat) (b : ByteArray) (h : k <= 65535) : FSpec prog 43 #[Pt p 0] (am p [.string (be k 2 ++ b), I 0] 176) (fun _ : Unit => True) (fun _ => I k) (fun _ => am p [.string b, I 0] 176) := by
 have hs := qL p (be k 2 ++ b) (by rw [ByteArray.size_append, bu]; omega)
 rwa [dj (by rw [bu]; decide), j7 h, ByteArray.extract_append_eq_right (bu k 2).symm (by rw [ByteArray.size_append])] at hs
theorem Ak (h : k <= 255) : eC (be k 1) 1 = k := by
 have : eC (be k 1) 1 = 0 * 2 ^ 8 + bn (be k 1) 0 := rfl
 rw [this, tD]
 omega
theorem yq (p k : Nat) (h : k <= 255) : ∃ c : List Value, FSpec prog 46 #[Pt p 0] (am p [.string (be k 1), I 0] 176) (fun _ : Unit => True) (fun _ => I k) (fun _ => am p c 176) := by
 have hs := sJ p (be k 1) 0
 have e : cU (be k 1) 0 (1 : Nat) = _ := iE (be k 1) 1 (by rw [bu]; omega)
 have e2 : (be k 1).extract 0 1 = be k 1 := by
  have := ByteArray.extract_zero_size (b := be k 1)
  rwa [bu] at this
 rw [e, e2, bu, Ak h] at hs
 exact ⟨_, hs⟩
theorem zm (h : Bys k l) : ∀ j u, (l.map eZ)[j]? = some u -> Rd (aa (byb b (tx l) c e) (R)) b (0 + j) u := by
 intro j u hj
 rw [List.getElem?_map] at hj
 cases hl : l[j]? with
 | none => rw [hl] at hj; cases hj
 | some w =>
  rw [hl] at hj
  cases hj
  have hlt := (List.getElem?_eq_some_iff.1 hl).1
  have hr := Rd.byb (P := (aa (byb b (tx l) c e) (R))) (R := R) (b := b) (c := c) (s := tx l) (e := e) (j := j) (by rw [iq]; exact hlt)
  rw [CT hl (h.2 w (List.mem_of_getElem? hl))] at hr
  rw [Nat.zero_add]
  exact hr
theorem rh {P : ab} (h : Bys k l) (hp : P = (aa (byb b (tx l) c e) (R))) : ∀ j u, (l.map eZ)[j]? = some u -> Rd P b (0 + j) u := hp ▸ zm h
set_option maxHeartbeats 800000 in
theorem Bb (p : Nat) (vl h nt : Int) (s : ByteArray) (hv : (eL vl).2 = 0) (hs : (eI h nt).2 = 0) : FSpec prog 42 #[Pt p 0] (am p [.string ((tx (eL vl).1 ++ (tx (eI h nt).1 ++ s))), I 0] 176) (fun _ : Unit => True) (fun _ => .tuple #[I vl, .agg [I h, I nt].toArray, I 0]) (fun _ => am p [.string (s), I 0] 176) := by
 have hz1 := iq (eL vl).1
 have hz2 := iq (eI h nt).1
 rw [th] at hz1
 rw [sZ] at hz2
 refine en func42 r fun _ F=>sa r<|al r fun b3=>an r<|sa r<|cy (iW p (tx (eL vl).1) (tx (eI h nt).1 ++ s) 6 hz1) r fun _=>lx r (dV r r) fun y13 _=>ea r<|cy (iW p (tx (eI h nt).1) s 6 hz2) r fun _=>lx r (dV r r) fun y16 _=>eb r<|nj<|sa r<|cy (gR p s 0) r fun _=>an r<|sa r<|bJ r<|nf r<|sk<|sa r<|lv (eE (k := 6) r (by omega)) r<|lv ((br (m := 6) (vs := (eL vl).1.map eZ) r (by rw [List.length_map, th]) (rh (gb vl).1 (Take.eq (A := byb y13.1 (tx (eL vl).1) y13.2 5)))).as (v' := ag (eL vl).1) r) r<|cy (Da hv) r fun _=>cj<|ea r<|lv (ap r r) r<|lv (ap r r) r<|eb r<|nj<|sa r<|bJ r<|nf r<|sk<|sa r<|lv (eE (k := 6) r (by omega)) r<|lv ((br (m := 6) (vs := (eI h nt).1.map eZ) r (by rw [List.length_map, sZ]) (rh (ff h nt).1 (Take.eq (A := byb y16.1 (tx (eI h nt).1) y16.2 5)))).as (v' := ag (eI h nt).1) r) r<|cy (DL hs) r fun _=>cj<|ea r<|lv ((ap (v := .agg [I h, I nt].toArray) r r)) r<|lv (ap r r) r<|al r fun b10=>so r r<|an r<|js<|sa r<|bJ r<|nf r<|sk<|js<|av (am b10 [I h, I nt] 107) (emp) [] ae<|pe 0 r r<|ps 1 r (ax r)<|pe 2 r r<|pn 3 r (dU r r r) fun _ _=>pe 4 r r<|dn<|kt<|jr ?_
 exact bM rfl (.tmp rfl (.agg rfl rfl (.tmp rfl (.nil)))) () trivial rfl Ent.take
theorem Ab (vl h nt sq : Int) (d : ByteArray) : oJ vl h nt sq d = (tx (eL vl).1 ++ (tx (eI h nt).1 ++ (be 2048 2 ++ ((d ++ fL (45 - d.size)) ++ be sq.toNat 1)))) := by
 unfold oJ
 simp only [ByteArray.append_assoc]
set_option maxHeartbeats 1600000 in
theorem j5 (vl h nt sq : Int) (d : ByteArray) (hv : (eL vl).2 = 0) (hs : (eI h nt).2 = 0) (hq : 0 <= sq /\ sq <= 255) (hd : d.size <= 1499) : FSpec prog 13 #[.string (aL vl h nt sq d)] (emp) (fun _ : Unit => True) (fun _ => .tuple #[.agg [I vl, I h, I nt, I sq, .string (d ++ fL (45 - d.size))].toArray, I 0]) (fun _ => emp) := by
 have hzS := cB vl h nt sq d
 have hzB := ki vl h nt sq d
 have hz3 : ((d ++ fL (45 - d.size)) ++ be sq.toNat 1).size = d.size + (45 - d.size) + 1 := by rw [ByteArray.size_append, ByteArray.size_append, eS, bu]
 have hz4 : (d ++ fL (45 - d.size)).size = d.size + (45 - d.size) := by rw [ByteArray.size_append, eS]
 refine en func13 r fun _ F=>bG<|sr<|al r fun b2=>an r<|js<|jb<|sa r<|lv (aX r) r<|bJ r<|an r<|cf r<|sa r<|lv (aX r) r<|bJ r<|an r<|cf r<|cY<|sa r<|cy (AO (oJ vl h nt sq d) (by omega)) r fun _=>cj<|ea r<|lv (ap r r) r<|lv (ap r r) r<|eb r<|nj<|sa r<|bJ r<|nf r<|sk<|sa r<|cy (iU (oJ vl h nt sq d)) r fun p=>an r<|sa r ?_
 rw [Ab]
 refine cy (Bb p vl h nt (be 2048 2 ++ ((d ++ fL (45 - d.size)) ++ be sq.toNat 1)) hv hs) r fun _=>ea r<|lv ((ap (v := I vl) r r)) r<|lv ((ap (v := .agg [I h, I nt].toArray) r r)) r<|lv ((ap (v := I 0) r r)) r<|al r fun b8=>ea r<|so r r<|an r<|js<|sa r<|bJ r<|nf r<|sk<|js<|sa r<|cy (yr p 2048 ((d ++ fL (45 - d.size)) ++ be sq.toNat 1) (by decide)) r fun _=>bJ r<|nf r<|sk ?_
 refine gO (X := Nat) (fun x => [(2, Pt b2 0), (6, Pt p 0), (9, Pt x 0)]) (fun x => (aa (am x [I vl, I h, I nt, I 0, .string (d ++ fL (45 - d.size))] 46) (aa (am p [.string (be sq.toNat 1), I 0] 176) (aa (am b2 [I 0, I 0, I 0, I 0, Z] 46) (F))))) (fun x => True) ?_ (fun x _ => ?_)
 ·refine av (am b8 [I h, I nt] 107) (emp) [] ae<|pe 0 r r<|ps 1 r (aj r)<|pl 2 r r r<|ps 3 r (aj r)<|pl 4 r r r<|pe 5 r r<|pe 6 r r ?_
  refine fk [7, 11] (by kernel_rfl) rfl fun i hi => ?_
  simp only [List.mem_cons, List.not_mem_nil, or_false] at hi
  rcases hi with rfl | rfl
  ·refine ⟨_, _, _, _, _, rfl, rfl, (ai (mI p ((d ++ fL (45 - d.size)) ++ be sq.toNat 1) 0) rfl rfl rfl), fun _ _ => ⟨⟨_, Take.eq (A := am b8 [I h, I nt] 107)⟩, .inr ⟨_, Take.eq (A := emp)⟩, ?_⟩⟩
   refine ps 8 r ((bm r r (by omega)).as (v' := I ((d.size + (45 - d.size) : Nat) : Int)) (congrArg (Value.int .i64) (by omega)))<|fk [9, 11] (by kernel_rfl) rfl fun i hi => ?_
   simp only [List.mem_cons, List.not_mem_nil, or_false] at hi
   rcases hi with rfl | rfl
   ·refine ⟨_, _, _, _, _, rfl, rfl, (ai (iW p (d ++ fL (45 - d.size)) (be sq.toNat 1) (d.size + (45 - d.size)) hz4) rfl rfl rfl), fun _ _ => ⟨⟨_, Take.eq (A := am b8 [I h, I nt] 107)⟩, .inr ⟨_, Take.eq (A := emp)⟩, ?_⟩⟩
    refine ps 10 r (af r)<|pn 11 r (bq r) fun b11 _=>pn 12 r (dU r r r) fun _ _=>dn ?_
    exact eM b11 trivial ⟨rfl, rfl, rfl, trivial⟩ Ent.take
   ·refine ⟨_, _, _, _, _, rfl, rfl, (bq rfl), fun b11 _ => ⟨⟨_, Take.eq (A := am b8 [I h, I nt] 107)⟩, .inr ⟨_, Take.eq (A := emp)⟩, ?_⟩⟩
    refine pn 9 r (ai (iW p (d ++ fL (45 - d.size)) (be sq.toNat 1) (d.size + (45 - d.size)) hz4) r r r) fun _ _=>ps 10 r (af r)<|pn 12 r (dU r r r) fun _ _=>dn ?_
    exact eM b11 trivial ⟨rfl, rfl, rfl, trivial⟩ Ent.take
  ·refine ⟨_, _, _, _, _, rfl, rfl, (bq rfl), fun b11 _ => ⟨⟨_, Take.eq (A := am b8 [I h, I nt] 107)⟩, .inr ⟨_, Take.eq (A := emp)⟩, ?_⟩⟩
   refine pn 7 r (ai (mI p ((d ++ fL (45 - d.size)) ++ be sq.toNat 1) 0) r r r) fun _ _=>ps 8 r ((bm r r (by omega)).as (v' := I ((d.size + (45 - d.size) : Nat) : Int)) (congrArg (Value.int .i64) (by omega)))<|pn 9 r (ai (iW p (d ++ fL (45 - d.size)) (be sq.toNat 1) (d.size + (45 - d.size)) hz4) r r r) fun _ _=>ps 10 r (af r)<|pn 12 r (dU r r r) fun _ _=>dn ?_
   exact eM b11 trivial ⟨rfl, rfl, rfl, trivial⟩ Ent.take
 ·refine sa r ?_
  obtain ⟨cc, hcc⟩ := yq p sq.toNat (by omega)
  refine cy hcc r fun _=>fz r<|so r r<|nr<|ls r<|so r r<|an r<|jr ?_
  exact bM rfl (.agg rfl rfl (.tmp rfl (.nil))) () trivial (by rw [show ((sq.toNat : Nat) : Int) = sq by omega]; rfl) (by rw [bN]; exact Ent.trans Ent.drop (Ent.trans Ent.drop Ent.drop))
end
def pM (a b : List Int) (t : ByteArray) : ByteArray := aY a ++ aY b ++ be 17 2 ++ be t.size 2 ++ t
def ky (a b : List Int) (t : ByteArray) : Nat := if gn (pM a b t) = 0 then 65535 else gn (pM a b t)
abbrev _root_.Go.qq56 (a : Nat) (b : List Int) := am a (b.map (.int .u8)) 25
theorem oS (a b : List Int) (t : ByteArray) (ha : a.length = 4) (hb : b.length = 4) (ha2 : ∀ v ∈ a, 0 <= v /\ v < 256) (hb2 : ∀ v ∈ b, 0 <= v /\ v < 256) (ht : t.size <= 65535) : FSpec prog 26 #[.agg (a.map (.int .u8)).toArray, .agg (b.map (.int .u8)).toArray, .string t] (emp) (fun _ : Unit => True) (fun _ => I (ky a b t)) (fun _ => emp) := by
 have hT : aY [] ++ (aY a ++ aY b) ++ be 17 2 ++ be t.size 2 ++ t = pM a b t := by unfold pM; rw [show aY [] ++ (aY a ++ aY b) = aY a ++ aY b from by show ByteArray.empty ++ _ = _; simp]
 have hz1 : (aY [] ++ (aY a ++ aY b)).size = 8 := by rw [ByteArray.size_append, ByteArray.size_append, aZ, aZ, aZ, ha, hb]; rfl
 have hz2 : (aY [] ++ (aY a ++ aY b) ++ be 17 2).size = 10 := by rw [ByteArray.size_append, hz1, bu]
 have hz3 : (aY [] ++ (aY a ++ aY b) ++ be 17 2 ++ be t.size 2).size = 12 := by rw [ByteArray.size_append, hz2, bu]
 have hz4 : (pM a b t).size = 12 + t.size := by rw [<- hT, ByteArray.size_append, hz3]
 refine en func26 r fun _ F=>bG<|sr<|bx r fun b3=>bx r fun b4=>an r<|sr<|lv (af r) r<|bx r fun p=>an r<|js<|fC (aa (WrP p (aY []) false) ((aa (qq56 b4 b) ((aa (qq56 b3 a) (F)))))) kl<|av ((aa (qq56 b4 b) (qq56 b3 a))) ((aa (qq56 b4 b) (qq56 b3 a))) [] ae<|pe 0 r r<|ps 1 r (eV r)<|ps 2 r (iM a r r ha.symm ha2)<|ps 3 r (eV r)<|ps 4 r (iM b r r hb.symm hb2)<|ps 5 r (ej r r (by rw [aZ, aZ]; omega))<|pn 6 r (ai (fA p (aY []) (aY a ++ aY b) (by decide) (by rw [ByteArray.size_append, aZ, aZ]; omega)) r r r) fun _ _=>dn<|kt<|sa r<|cy (iB p (aY [] ++ (aY a ++ aY b)) 17 (by decide) (by omega)) r fun _=>nr<|eb r<|lv (aX r) r<|cy (iB p (aY [] ++ (aY a ++ aY b) ++ be 17 2) t.size ht (by omega)) r fun _=>nr<|eb r<|cy (fA p (aY [] ++ (aY a ++ aY b) ++ be 17 2 ++ be t.size 2) t (by omega) (by omega)) r fun _=>nr<|ea r<|cy (im p (aY [] ++ (aY a ++ aY b) ++ be 17 2 ++ be t.size 2 ++ t)) r fun _=>ea r<|lv (ap r r) r<|lv (ap r r) r<|eb r<|nj<|sr ?_
 rw [hT]
 refine ea r<|cy (kp (pM a b t) (by omega)) r fun _=>cj<|an r<|sa r<|lv (bs r r) r<|nk ?_
 refine aG rfl (fun h1 => ?_) (fun h1 => ?_)
 ·refine sb r<|nk<|jr<|kd ?_
  exact aD rfl rfl () trivial (by rw [ky, if_neg (by omega)]) Ent.take
 ·refine sk<|aE r<|jr ?_
  exact aD rfl rfl () trivial (by rw [ky, if_pos (by omega)]; rfl) Ent.take
section
variable {n : Int}
structure En where
 a0 : Int
 a1 : Int
 a2 : Int
 a3 : Int
 b0 : Int
 b1 : Int
 b2 : Int
 b3 : Int
 f : Int
 g : Int
def uG (x : En) : List Value := [U8 x.a0, U8 x.a1, U8 x.a2, U8 x.a3, U8 x.b0, U8 x.b1, U8 x.b2, U8 x.b3, I x.f, I x.g]
def okEn (x : En) : Prop := (Lit.int .u8 x.a0).wf = true /\ (Lit.int .u8 x.a1).wf = true /\ (Lit.int .u8 x.a2).wf = true /\ (Lit.int .u8 x.a3).wf = true /\ (Lit.int .u8 x.b0).wf = true /\ (Lit.int .u8 x.b1).wf = true /\ (Lit.int .u8 x.b2).wf = true /\ (Lit.int .u8 x.b3).wf = true /\ (Lit.int .i64 x.f).wf = true /\ (Lit.int .i64 x.g).wf = true
def En.a (x : En) : List Int := [x.a0, x.a1, x.a2, x.a3]
def En.b (x : En) : List Int := [x.b0, x.b1, x.b2, x.b3]
theorem He (h : (Lit.int .u8 n).wf = true) : 0 <= n /\ n < 256 := by
 have : 0 <= n /\ n <= 255 := by simpa [Lit.wf, IntKind.min, IntKind.max, IntKind.signed, IntKind.bits] using h
 omega
theorem zl (h : (Lit.int .i64 n).wf = true) : -9223372036854775808 <= n /\ n <= 9223372036854775807 := by simpa [Lit.wf, IntKind.min, IntKind.max, IntKind.signed, IntKind.bits] using h
theorem okEn.a {x : En} (h : okEn x) : ∀ v ∈ x.a, 0 <= v /\ v < 256 := by
 obtain ⟨h0, h1, h2, h3, _⟩ := h
 intro v hv
 simp only [En.a, List.mem_cons, List.not_mem_nil, or_false] at hv
 rcases hv with rfl | rfl | rfl | rfl <;> exact He (by assumption)
theorem okEn.b {x : En} (h : okEn x) : ∀ v ∈ x.b, 0 <= v /\ v < 256 := by
 obtain ⟨_, _, _, _, h0, h1, h2, h3, _⟩ := h
 intro v hv
 simp only [En.b, List.mem_cons, List.not_mem_nil, or_false] at hv
 rcases hv with rfl | rfl | rfl | rfl <;> exact He (by assumption)
def gt (x : En) : Prop := (0 <= x.f /\ x.f <= 65535) /\ (0 <= x.g /\ x.g <= 65535)
def ee (x : En) (n : Nat) : ByteArray := be x.f.toNat 2 ++ be x.g.toNat 2 ++ be (8 + n) 2
def e7 (x : En) (t : ByteArray) : ByteArray := ee x t.size ++ be (ky x.a x.b (ee x t.size ++ ⟨#[0, 0]⟩ ++ t)) 2 ++ t
theorem un (a b : List Int) (t : ByteArray) : ky a b t <= 65535 := by
 unfold ky
 have := qc (pM a b t)
 split <;> omega
attribute [local irreducible] be ky gn
set_option maxHeartbeats 400000 in
theorem wl (x : En) (t : ByteArray) (hx : okEn x) (h : gt x) (ht : t.size <= 8192) : FSpec prog 8 #[.agg (uG x).toArray, .string t] (emp) (fun _ : Unit => True) (fun _ => .tuple #[.string (e7 x t), I 0]) (fun _ => emp) := by
 have hz2 : (be x.f.toNat 2 ++ be x.g.toNat 2).size = 4 := by rw [ByteArray.size_append, bu, bu]
 have hz3 : (ee x t.size).size = 6 := by unfold ee; rw [ByteArray.size_append, hz2, bu]
 have hz0 : (⟨#[0, 0]⟩ : ByteArray).size = 2 := rfl
 have hz4 : ((ee x t.size) ++ be (ky x.a x.b (ee x t.size ++ ⟨#[0, 0]⟩ ++ t)) 2).size = 8 := by rw [ByteArray.size_append, hz3, bu]
 have hul := un x.a x.b (ee x t.size ++ ⟨#[0, 0]⟩ ++ t)
 refine en func8 r fun _ F=>bG<|sr<|lx r (aV (l := [U8 x.a0, U8 x.a1, U8 x.a2, U8 x.a3, U8 x.b0, U8 x.b1, U8 x.b2, U8 x.b3, I x.f, I x.g]) r r) fun b2 _=>eb r<|nr<|lv (af r) r<|bx r fun p=>an r<|js<|fC _ kl<|jg<|ea r<|fz r<|ld r r<|cy (xZ p (aY []) x.f h.1 (by decide)) r fun _=>nj ?_
 rw [lJ]
 refine jg<|ea r<|fz r<|ld r r<|cy (xZ p (be x.f.toNat 2) x.g h.2 (by rw [bu]; decide)) r fun _=>nr<|ea r<|cy (im p (be x.f.toNat 2 ++ be x.g.toNat 2)) r fun _=>ea r<|lv (ap r r) r<|lv (ap r r) r<|eb r<|nj<|jb<|sa r<|bJ r<|an r<|cf r<|sa r<|lv (aX r) r<|bJ r<|an r<|cf r<|cY<|sb r<|lv (aX r) r<|lv ((aQ r r (by omega)).as (v' := I ((8 + t.size : Nat) : Int)) (by rw [Int.natCast_add]; rfl)) r<|cy (iB p (be x.f.toNat 2 ++ be x.g.toNat 2) (8 + t.size) (by omega) (by omega)) r fun _=>nj ?_
 rw [show (be x.f.toNat 2 ++ be x.g.toNat 2) ++ be (8 + t.size) 2 = (ee x t.size) from rfl]
 refine jg<|ea r<|cy (im p (ee x t.size)) r fun _=>ea r<|lv (ap r r) r<|lv (ap r r) r<|an r<|sa r<|fz r<|ls r<|fz r<|ls r<|ea r<|lv (ej r r (by rw [hz3]; decide)) r<|ea r<|lv (ej r r (by rw [ByteArray.size_append, hz3]; omega)) r<|cy (oS x.a x.b ((ee x t.size) ++ ⟨#[0, 0]⟩ ++ t) r r hx.a hx.b (by rw [ByteArray.size_append, ByteArray.size_append, hz3, hz0]; omega)) r fun _=>cj<|cy (iB p (ee x t.size) (ky x.a x.b (ee x t.size ++ ⟨#[0, 0]⟩ ++ t)) hul (by omega)) r fun _=>nr<|eb r<|cy (fA p ((ee x t.size) ++ be (ky x.a x.b (ee x t.size ++ ⟨#[0, 0]⟩ ++ t)) 2) t (by omega) (by omega)) r fun _=>nr<|ea r<|cy (im p ((ee x t.size) ++ be (ky x.a x.b (ee x t.size ++ ⟨#[0, 0]⟩ ++ t)) 2 ++ t)) r fun _=>lv (ap r r) r<|lv (ap r r) r<|eb r<|nk<|jr ?_
 exact cH rfl rfl rfl () trivial rfl Ent.take
end
section
def xH : En := ⟨0, 0, 0, 0, 0, 0, 0, 0, 0, 0⟩
def En.at (x : En) (f g : Nat) : En := ⟨x.a0, x.a1, x.a2, x.a3, x.b0, x.b1, x.b2, x.b3, f, g⟩
def kH (s : ByteArray) : ByteArray := s.extract 0 6 ++ ⟨#[0, 0]⟩ ++ s.extract 8 s.size
def gd (x : En) (s : ByteArray) : En × ByteArray × Int :=
 if s.size < 8 then (xH, ByteArray.empty, 10) else if bE s 4 < 8 \/ 8200 < bE s 4 then (xH, ByteArray.empty, 15) else if s.size < bE s 4 then (xH, ByteArray.empty, 10) else if bE s 4 < s.size then (xH, ByteArray.empty, 11)
 else if bE s 6 ≠ 0 /\ bE s 6 ≠ ky x.a x.b (kH s) then (xH, ByteArray.empty, 12) else (x.at (bE s 0) (bE s 2), s.extract 8 s.size, 0)
theorem Cb {s : ByteArray} (h : s.size < 8) : (cV 2 (cV 2 (cV 2 (cV 2 (s, 0))))).2 ≠ 0 := fun e => by
 have h1 := ja (c := 2) (q := cV 2 (cV 2 (cV 2 (s, 0))))
 have h2 := ja (c := 2) (q := cV 2 (cV 2 (s, 0)))
 have h3 := ja (c := 2) (q := cV 2 (s, 0))
 have h4 := ja (c := 2) (q := (s, 0))
 have g1 := h1.2 e
 have g2 := h2.2 g1.1
 have g3 := h3.2 g2.1
 have g4 := h4.2 g3.1
 have : ((s, (0 : Int)) : ByteArray × Int).1.size = s.size := rfl
 omega
theorem vX (p : Nat) (s : ByteArray) (h : 2 <= s.size) : FSpec prog 43 #[Pt p 0] (qq46 p s) (fun _ : Unit => True) (fun _ => I (bE s 0)) (fun _ => am p [.string (s.extract 2 s.size), I 0] 176) := qL p s h
attribute [local irreducible] be ky gn pM bE cV
theorem oK (x : En) (s : ByteArray) (h : s.size < 8) : FSpec prog 16 #[.agg [U8 x.a0, U8 x.a1, U8 x.a2, U8 x.a3].toArray, .agg [U8 x.b0, U8 x.b1, U8 x.b2, U8 x.b3].toArray, .string s] (emp) (fun _ : Unit => True) (fun _ => .tuple #[.agg (uG (gd x s).1).toArray, .string (gd x s).2.1, I (gd x s).2.2]) (fun _ => emp) := by
 refine en func16 r fun _ F=>bG<|sr<|lx r (aV (l := [U8 x.a0, U8 x.a1, U8 x.a2, U8 x.a3]) r r) fun b3 _=>lx r (aV (l := [U8 x.b0, U8 x.b1, U8 x.b2, U8 x.b3]) r r) fun b4 _=>al r fun b6=>eb r<|nr<|ea r<|cy (iU s) r fun p=>an r<|sr<|ls r<|ls r<|lv (af r) r<|al r fun b10=>so r r<|nr<|ea r<|cy (iV p (s, 0).1 (s, 0).2) r fun _=>ea r<|cy (iV p (cV 2 (s, 0)).1 (cV 2 (s, 0)).2) r fun _=>fz r<|so r r<|fz r<|so r r<|nr<|ea r<|cy (iV p (cV 2 (cV 2 (s, 0))).1 (cV 2 (cV 2 (s, 0))).2) r fun _=>ea r<|cy (iV p (cV 2 (cV 2 (cV 2 (s, 0)))).1 (cV 2 (cV 2 (cV 2 (s, 0)))).2) r fun _=>eb r<|nj<|jb<|sa r<|cy (gR p (cV 2 (cV 2 (cV 2 (cV 2 (s, 0))))).1 (cV 2 (cV 2 (cV 2 (cV 2 (s, 0))))).2) r fun _=>lv ((bs r r).bool_t (Cb h)) r<|an r<|ct r<|sr<|lv (af r) r<|so r r<|eb r<|nk<|jr<|kq<|kd ?_
 exact fK rfl rfl rfl rfl rfl () trivial (by rw [show gd x s = (xH, ByteArray.empty, 10) from by unfold gd; (repeat' split) <;> first | rfl | (exfalso; omega)]; rfl) Ent.take
theorem qA (x : En) (s : ByteArray) (hx : okEn x) (h : ¬ s.size < 8) (hs : s.size <= 1000000) : FSpec prog 16 #[.agg [U8 x.a0, U8 x.a1, U8 x.a2, U8 x.a3].toArray, .agg [U8 x.b0, U8 x.b1, U8 x.b2, U8 x.b3].toArray, .string s] (emp) (fun _ : Unit => True) (fun _ => .tuple #[.agg (uG (gd x s).1).toArray, .string (gd x s).2.1, I (gd x s).2.2]) (fun _ => emp) := by
 have hz6 : (s.extract 0 6).size = 6 := bH s 0 6 (by omega)
 have hz8 : (s.extract 8 s.size).size = s.size - 8 := bH s _ _ (Nat.le_refl _)
 have hz0 : (⟨#[0, 0]⟩ : ByteArray).size = 2 := rfl
 have hzs : (kH s).size = s.size := by unfold kH; rw [ByteArray.size_append, ByteArray.size_append, hz6, hz8, hz0]; omega
 refine en func16 r fun _ F=>bG<|sr<|lx r (aV (l := [U8 x.a0, U8 x.a1, U8 x.a2, U8 x.a3]) r r) fun b3 _=>lx r (aV (l := [U8 x.b0, U8 x.b1, U8 x.b2, U8 x.b3]) r r) fun b4 _=>al r fun b6=>eb r<|nr<|ea r<|cy (iU s) r fun p=>an r<|sr<|ls r<|ls r<|lv (af r) r<|al r fun b10=>so r r<|nr<|ea r<|cy (vX p s (by omega)) r fun _=>ea r<|cy (jw p 2 s (by omega)) r fun _=>fz r<|so r r<|fz r<|so r r<|nr<|ea r<|cy (jw p 4 s (by omega)) r fun _=>ea r<|cy (jw p 6 s (by omega)) r fun _=>eb r<|nj<|jb<|sa r<|cy (gR p (s.extract 8 s.size) 0) r fun _=>bJ r<|an r<|cf r<|sa r<|lv (aM r r) r<|ea r ?_
 refine il rfl rfl (fun h1 => ?_) (fun h1 => ?_) (fun _ h => by cases h; rfl)
 ·refine ea r<|bR h1 r r<|lv (bt r r) r<|lv (bo r h1 r) r<|an r ?_
  refine aG rfl (fun h2 => ?_) (fun h2 => ?_)
  ·refine sr<|lv (af r) r ?_
   refine so r r<|eb r<|nk<|jr<|kq<|kd ?_
   exact fK rfl rfl rfl rfl rfl () trivial (by rw [show gd x s = (xH, ByteArray.empty, 15) from by unfold gd; (repeat' split) <;> first | rfl | (exfalso; omega)]; rfl) Ent.take
  ·refine sb r<|lv (aX r) r<|lv (bt r r) r<|an r ?_
   refine aG rfl (fun h3 => ?_) (fun h3 => ?_)
   ·refine sr<|lv (af r) r ?_
    refine so r r<|eb r<|nk<|jr<|kq<|kd ?_
    exact fK rfl rfl rfl rfl rfl () trivial (by rw [show gd x s = (xH, ByteArray.empty, 10) from by unfold gd; (repeat' split) <;> first | rfl | (exfalso; omega)]; rfl) Ent.take
   ·refine sb r<|lv (aX r) r<|lv (aM r r) r<|an r ?_
    refine aG rfl (fun h4 => ?_) (fun h4 => ?_)
    ·refine sr<|lv (af r) r ?_
     refine so r r<|eb r<|nk<|jr<|kq<|kd ?_
     exact fK rfl rfl rfl rfl rfl () trivial (by rw [show gd x s = (xH, ByteArray.empty, 11) from by unfold gd; (repeat' split) <;> first | rfl | (exfalso; omega)]; rfl) Ent.take
    ·refine js<|dM ae<|qa r<|qv (bs r r) r<|qa r ?_
     refine Ih rfl rfl (fun h5 => ?_) (fun h5 => ?_) (fun _ h => by cases h; rfl)
     ·refine qa r<|gF h5 r r<|qv (ax r) r<|gF h5 r r<|qv (ax r) r<|gF h5 r r<|qa r<|gF h5 r r<|qv ((dW r r (by omega)).as (congrArg (fun k => Value.string (s.extract 0 k)) (show Int.toNat 6 = 6 from r))) r<|gF h5 r r<|qv (ej r r (by rw [hz6]; decide)) r<|gF h5 r r<|qa r<|gF h5 r r<|qv ((gW r r (by omega)).as (congrArg (fun k => Value.string (s.extract k s.size)) (show Int.toNat 8 = 8 from r))) r<|gF h5 r r ?_
      refine qv ((ej r r (by rw [ByteArray.size_append, hz6, hz0, hz8]; omega)).as (v' := .string (kH s)) r) r<|gF h5 r r<|dy (oS x.a x.b (kH s) r r hx.a hx.b (by omega)) r r (fun _ _ => r) (fun _ _ => ah _) r<|gF h5 r r<|qv (bs r r) r<|qv (bi r h5 r) r<|qa r<|qn<|kt ?_
      refine aG rfl (fun h6 => ?_) (fun h6 => ?_)
      ·refine sr<|lv (af r) r ?_
       refine so r r<|eb r<|nk<|jr<|kq<|kd ?_
       exact fK rfl rfl rfl rfl rfl () trivial (by rw [show gd x s = (xH, ByteArray.empty, 12) from by unfold gd; (repeat' split) <;> first | rfl | (exfalso; omega)]; rfl) Ent.take
      ·refine cY<|js<|av (am b10 [U8 x.a0, U8 x.a1, U8 x.a2, U8 x.a3, U8 x.b0, U8 x.b1, U8 x.b2, U8 x.b3, I (bE s 0 : Nat), I (bE s 2 : Nat)] 32) (am b10 [U8 x.a0, U8 x.a1, U8 x.a2, U8 x.a3, U8 x.b0, U8 x.b1, U8 x.b2, U8 x.b3, I (bE s 0 : Nat), I (bE s 2 : Nat)] 32) [] ae<|dv 0 r (by kernel_rfl) (ax r) r<|pe 1 r r<|pn 2 r (ai (uN p (s.extract 8 s.size)) r r r) fun _ _=>?_
       refine pn 3 r (dU r r r) fun _ _=>pe 4 r r<|pe 5 r r<|dn<|kt<|jr ?_
       exact fK rfl rfl rfl rfl rfl () trivial (by rw [show gd x s = (x.at (bE s 0) (bE s 2), s.extract 8 s.size, 0) from by unfold gd; (repeat' split) <;> first | rfl | (exfalso; omega)]; rfl) Ent.take
     ·refine fB h5 rfl rfl ?_ (fun _ h => by cases h; rfl)
      refine fB h5 rfl rfl ?_ (fun _ h => by cases h; rfl)
      refine fB h5 rfl rfl ?_ (fun _ h => by cases h; rfl)
      refine fB h5 rfl rfl ?_ (fun _ h => by cases h; rfl)
      refine fB h5 rfl rfl ?_ (fun _ h => by cases h; rfl)
      refine fB h5 rfl rfl ?_ (fun _ h => by cases h; rfl)
      refine fB h5 rfl rfl ?_ (fun _ h => by cases h; rfl)
      refine fB h5 rfl rfl ?_ (fun _ h => by cases h; rfl)
      refine fB h5 rfl rfl ?_ (fun _ h => by cases h; rfl)
      refine fB h5 rfl rfl ?_ (fun _ h => by cases h; rfl)
      refine qv (bo r h5 r) r<|qa r<|qn<|kt<|cf r<|cY<|js<|av (am b10 [U8 x.a0, U8 x.a1, U8 x.a2, U8 x.a3, U8 x.b0, U8 x.b1, U8 x.b2, U8 x.b3, I (bE s 0 : Nat), I (bE s 2 : Nat)] 32) (am b10 [U8 x.a0, U8 x.a1, U8 x.a2, U8 x.a3, U8 x.b0, U8 x.b1, U8 x.b2, U8 x.b3, I (bE s 0 : Nat), I (bE s 2 : Nat)] 32) [] ae<|dv 0 r (by kernel_rfl) (ax r) r<|pe 1 r r<|pn 2 r (ai (uN p (s.extract 8 s.size)) r r r) fun _ _=>pn 3 r (dU r r r) fun _ _=>pe 4 r r<|pe 5 r r<|dn<|kt<|jr ?_
      exact fK rfl rfl rfl rfl rfl () trivial (by rw [show gd x s = (x.at (bE s 0) (bE s 2), s.extract 8 s.size, 0) from by unfold gd; (repeat' split) <;> first | rfl | (exfalso; omega)]; rfl) Ent.take
 ·refine jf h1 rfl ?_
  refine lv (bi r h1 r) r<|an r<|ct r<|sr<|lv (af r) r<|so r r<|eb r<|nk<|jr<|kq<|kd ?_
  exact fK rfl rfl rfl rfl rfl () trivial (by rw [show gd x s = (xH, ByteArray.empty, 15) from by unfold gd; (repeat' split) <;> first | rfl | (exfalso; omega)]; rfl) Ent.take
theorem qx (x : En) (s : ByteArray) (hx : okEn x) (hs : s.size <= 1000000) : FSpec prog 16 #[.agg [U8 x.a0, U8 x.a1, U8 x.a2, U8 x.a3].toArray, .agg [U8 x.b0, U8 x.b1, U8 x.b2, U8 x.b3].toArray, .string s] emp (fun _ : Unit => True) (fun _ => .tuple #[.agg (uG (gd x s).1).toArray, .string (gd x s).2.1, I (gd x s).2.2]) (fun _ => emp) := by
 by_cases h : s.size < 8
 ·exact oK x s h
 ·exact qA x s hx h hs
end
section
variable {x : En}
theorem gw (x : En) (t : ByteArray) : (e7 x t).size = 8 + t.size := by
 unfold e7 ee
 rw [ByteArray.size_append, ByteArray.size_append, ByteArray.size_append, ByteArray.size_append, bu, bu, bu, bu]
attribute [local irreducible] be ky gn pM bE cV e7
theorem fP (x : En) (n : Nat) : (ee x n).size = 6 := by unfold ee; simp only [ByteArray.size_append, bu]
theorem xy (h : gt x) (n : Nat) : bE (ee x n) 0 = x.f.toNat := by
 unfold gt at h
 unfold ee
 rw [dj (by simp only [ByteArray.size_append, bu]; omega), dj (by simp only [bu]; omega)]
 exact j7 (by omega)
theorem xw (h : gt x) (n : Nat) : bE (ee x n) 2 = x.g.toNat := by
 unfold gt at h
 unfold ee
 rw [dj (by simp only [ByteArray.size_append, bu]; omega), i1 (by simp only [bu]; omega)]
 simp only [bu]
 exact j7 (by omega)
theorem xv (x : En) {n : Nat} (h : n <= 8192) : bE (ee x n) 4 = 8 + n := by
 unfold ee
 rw [i1 (by simp only [ByteArray.size_append, bu]; omega)]
 simp only [ByteArray.size_append, bu]
 exact j7 (by omega)
def dg (x : En) (u t : ByteArray) : ByteArray := ee x t.size ++ u ++ t
theorem xK (x : En) (t : ByteArray) : e7 x t = dg x (be (ky x.a x.b (dg x ⟨#[0, 0]⟩ t)) 2) t := by unfold e7; rfl
section
variable {x : En} {u t : ByteArray}
theorem ui (hu : u.size = 2) : (dg x u t).size = 8 + t.size := by unfold dg; rw [ByteArray.size_append, ByteArray.size_append, fP, hu]
theorem Ee (hu : u.size = 2) (h : gt x) : bE (dg x u t) 0 = x.f.toNat := by
 have := fP x t.size
 unfold dg
 rw [dj (by rw [ByteArray.size_append]; omega), dj (by omega), xy h]
theorem Ed (hu : u.size = 2) (h : gt x) : bE (dg x u t) 2 = x.g.toNat := by
 have := fP x t.size
 unfold dg
 rw [dj (by rw [ByteArray.size_append]; omega), dj (by omega), xw h]
theorem Ec (hu : u.size = 2) (h : t.size <= 8192) : bE (dg x u t) 4 = 8 + t.size := by
 have := fP x t.size
 unfold dg
 rw [dj (by rw [ByteArray.size_append]; omega), dj (by omega), xv x h]
theorem Eb (hu : u.size = 2) : bE (dg x u t) 6 = bE u 0 := by
 have := fP x t.size
 unfold dg
 rw [dj (by rw [ByteArray.size_append]; omega), i1 (by omega), this]
theorem uj (hu : u.size = 2) : (dg x u t).extract 8 (dg x u t).size = t := by
 have hz := ui (x := x) (t := t) hu
 have e : (ee x t.size ++ u).size = 8 := by rw [ByteArray.size_append, fP, hu]
 rw [hz]
 unfold dg
 exact ByteArray.extract_append_eq_right (by rw [e]) (by rw [e])
theorem zi (hu : u.size = 2) : (dg x u t).extract 0 6 = ee x t.size := by
 unfold dg
 rw [ByteArray.append_assoc]
 exact ByteArray.extract_append_eq_left (by rw [fP])
theorem uS (hu : u.size = 2) : kH (dg x u t) = dg x ⟨#[0, 0]⟩ t := by
 unfold kH
 rw [uj hu, zi hu]
 rfl
theorem zj (hu : u.size = 2) (h : gt x) (ht : t.size <= 8192) (y : En) (hs : bE u 0 = 0 \/ bE u 0 = ky y.a y.b (dg x ⟨#[0, 0]⟩ t)) : gd y (dg x u t) = (y.at x.f.toNat x.g.toNat, t, 0) := by
 have h0 := ui (x := x) (t := t) hu
 have h1 := Ec (x := x) hu ht
 have h2 := Eb (x := x) (t := t) hu
 have h3 := uS (x := x) (t := t) hu
 unfold gd
 rw [if_neg (by omega), if_neg (by omega), if_neg (by omega), if_neg (by omega), h3, h2, if_neg (by omega), Ee hu h, Ed hu h, uj hu]
end
theorem tu {t : ByteArray} (h : gt x) (ht : t.size <= 8192) : gd x (e7 x t) = (x, t, 0) := by
 rw [xK, zj (bu _ _) h ht x (.inr (j7 (un _ _ _)))]
 unfold gt at h
 have e1 : ((x.f.toNat : Nat) : Int) = x.f := by omega
 have e2 : ((x.g.toNat : Nat) : Int) = x.g := by omega
 unfold En.at
 rw [e1, e2]
theorem Ay (x : En) (t : ByteArray) (hx : okEn x) (h : gt x) (ht : t.size <= 8192) : FSpec prog 16 #[.agg [U8 x.a0, U8 x.a1, U8 x.a2, U8 x.a3].toArray, .agg [U8 x.b0, U8 x.b1, U8 x.b2, U8 x.b3].toArray, .string (e7 x t)] emp (fun _ : Unit => True) (fun _ => .tuple #[.agg [U8 x.a0, U8 x.a1, U8 x.a2, U8 x.a3, U8 x.b0, U8 x.b1, U8 x.b2, U8 x.b3, I x.f, I x.g].toArray, .string t, I 0]) (fun _ => emp) := by
 have := qx x (e7 x t) hx (by rw [gw]; omega)
 rw [tu h ht] at this
 exact this
attribute [local irreducible] gd dg
end
section
def bD (m : Nat) : Nat := (m - 39) / 8 * 8
def iH (m : Int) : Prop := 64 <= m /\ m <= 1518
instance (m : Int) : Decidable (iH m) := inferInstanceAs (Decidable (_ /\ _))
theorem lw {m : Nat} (h : 64 <= m) : 24 <= bD m /\ bD m <= m - 39 /\ m - 39 < bD m + 8 /\ bD m % 8 = 0 := by unfold bD; omega
theorem Ao : ∀ x : Nat, x < 1500 -> (BitVec.ofInt 64 (x : Int) &&& ~~~ BitVec.ofInt 64 7).toNat = x / 8 * 8 := by decide +kernel
theorem CN {x : Nat} (h : x < 1500) : I (IntKind.i64.wrap (((BitVec.ofInt IntKind.i64.bits (x : Int) &&& ~~~ BitVec.ofInt IntKind.i64.bits 7).toNat : Nat) : Int)) = I ((x / 8 * 8 : Nat) : Int) := by
 have := Ao x h
 show I (IntKind.i64.wrap (((BitVec.ofInt 64 (x : Int) &&& ~~~ BitVec.ofInt 64 7).toNat : Nat) : Int)) = _
 rw [this, Go.IntWalk.i64_in _ (by omega)]
theorem kG (m : Int) (h : -9000000000000000000 <= m /\ m <= 9000000000000000000) : FSpec prog 29 #[I m] (emp) (fun _ : Unit => True) (fun _ => I (m - 39)) (fun _ => emp) := by
 refine en func29 r fun _ F=>aE r<|sa r<|lv (bm r r (by omega)) r<|lv (bm r r (by omega)) r<|an r<|jr ?_
 exact aD rfl rfl () trivial (congrArg (Value.int .i64) (by omega)) (ah _)
theorem yl (m : Int) (h : ¬ iH m) : FSpec prog 28 #[I m] (emp) (fun _ : Unit => True) (fun _ => .tuple #[I 0, I 1]) (fun _ => emp) := by
 unfold iH at h
 refine en func28 r fun _ F=>sb r<|nj<|sa r<|lv (aM r r) r<|ea r ?_
 refine il rfl rfl (fun h1 => ?_) (fun h1 => ?_) (fun _ h => by cases h; rfl)
 ·refine ea r<|bR h1 r r<|lv (bt r r) r<|lv (bo r h1 r) r<|nk ?_
  refine aG rfl (fun h2 => ?_) (fun h2 => by exfalso; omega)
  refine sb r<|nk<|jr<|kd ?_
  exact cH rfl rfl rfl () trivial (rfl) (ah _)
 ·refine jf h1 rfl ?_
  refine lv (bi r h1 r) r<|nt r<|sb r<|nk<|jr<|kd ?_
  exact cH rfl rfl rfl () trivial (rfl) (ah _)
theorem qI (m : Nat) (h : 64 <= m /\ m <= 1518) : FSpec prog 28 #[I m] (emp) (fun _ : Unit => True) (fun _ => .tuple #[I (bD m : Nat), I 0]) (fun _ => emp) := by
 refine en func28 r fun _ F=>sb r<|nj<|sa r<|bJ r<|ea r<|go r<|ea r<|go r<|bJ r<|an r<|cf r<|sk<|sa r<|cy (kG m (by omega)) r fun _=>cj ?_
 rw [show (m : Int) - 39 = ((m - 39 : Nat) : Int) by omega]
 refine lv ((td r r).as (CN (x := m - 39) (by omega))) r<|eb r<|nk<|jr ?_
 exact cH rfl rfl rfl () trivial (rfl) (ah _)
attribute [local irreducible] bD
end
section
variable {w r a : Nat}
structure Pk where
 id : Int
 more : Bool
 off : Int
 ttl : Int
 proto : Int
 s0 : Int
 s1 : Int
 s2 : Int
 s3 : Int
 d0 : Int
 d1 : Int
 d2 : Int
 d3 : Int
 data : ByteArray
def ef (x : Pk) : List Value := [I x.id, .bool x.more, I x.off, I x.ttl, I x.proto, U8 x.s0, U8 x.s1, U8 x.s2, U8 x.s3, U8 x.d0, U8 x.d1, U8 x.d2, U8 x.d3, .string x.data]
def okPk (x : Pk) : Prop := (Lit.int .i64 x.id).wf = true /\ (Lit.int .i64 x.off).wf = true /\ (Lit.int .i64 x.ttl).wf = true /\ (Lit.int .i64 x.proto).wf = true /\ (Lit.int .u8 x.s0).wf = true /\ (Lit.int .u8 x.s1).wf = true /\ (Lit.int .u8 x.s2).wf = true /\ (Lit.int .u8 x.s3).wf = true /\ (Lit.int .u8 x.d0).wf = true /\ (Lit.int .u8 x.d1).wf = true /\ (Lit.int .u8 x.d2).wf = true /\ (Lit.int .u8 x.d3).wf = true /\ x.data.size <= maxLen
theorem vv (x : Pk) : (ef x).length = 14 := rfl
theorem kj (p : Pk) : ∀ u ∈ ef p, u.oneCell' = true := by
 intro u hu
 simp only [ef, List.mem_cons, List.not_mem_nil, or_false] at hu
 rcases hu with rfl | rfl | rfl | rfl | rfl | rfl | rfl | rfl | rfl | rfl | rfl | rfl | rfl | rfl <;> rfl
def iu (p : Pk) (a e : Nat) : Pk := ⟨p.id, decide (e < p.data.size), ((a / 8 : Nat) : Int), p.ttl, p.proto, p.s0, p.s1, p.s2, p.s3, p.d0, p.d1, p.d2, p.d3, p.data.extract a e⟩
def cW (p : Pk) (w r : Nat) (a : Nat) : List Pk := if h : a + w < p.data.size /\ 0 < r then iu p a (a + r) :: cW p w r (a + r) else [iu p a p.data.size]
termination_by p.data.size - a
theorem jJ {p : Pk} (h : a + w < p.data.size) (hr : 0 < r) : cW p w r a = iu p a (a + r) :: cW p w r (a + r) := by rw [cW, dif_pos ⟨h, hr⟩]
theorem iF {p : Pk} (h : ¬ a + w < p.data.size) : cW p w r a = [iu p a p.data.size] := by rw [cW, dif_neg (fun n => h n.1)]
def ia (p : Pk) (m : Int) : Int := if ¬ iH m then 1 else if p.more = true \/ p.off ≠ 0 then 15 else if 65515 < p.data.size then 11 else 0
theorem ss {p : Pk} {m : Int} (h : ia p m = 0) : iH m /\ p.more = false /\ p.off = 0 /\ p.data.size <= 65515 := by
 unfold ia at h
 split at h
 ·cases h
 ·rename_i h1
  split at h
  ·cases h
  ·rename_i h2
   split at h
   ·cases h
   ·rename_i h3
    refine ⟨Classical.not_not.1 h1, ?_, ?_, by omega⟩
    ·cases hm : p.more with
     | false => rfl
     | true => exact absurd (.inl hm) h2
    ·exact Classical.not_not.1 fun n => h2 (.inr n)
attribute [local irreducible] bD
theorem j9 (p : Pk) (a e : Nat) (h : a <= e) (he : e <= p.data.size) (hd : p.data.size <= 1000000000) : FSpec prog 30 #[.agg [I p.id, .bool p.more, I p.off, I p.ttl, I p.proto, U8 p.s0, U8 p.s1, U8 p.s2, U8 p.s3, U8 p.d0, U8 p.d1, U8 p.d2, U8 p.d3, .string p.data].toArray, I (a : Nat), I (e : Nat)] (emp) (fun _ : Unit => True) (fun _ => .agg (ef (iu p a e)).toArray) (fun _ => emp) := by
 refine en func30 r fun _ F=>bG<|sr<|lx r (aV (l := [I p.id, .bool p.more, I p.off, I p.ttl, I p.proto, U8 p.s0, U8 p.s1, U8 p.s2, U8 p.s3, U8 p.d0, U8 p.d1, U8 p.d2, U8 p.d3, .string p.data]) r r) fun b3 _=>al r fun b6=>nj<|av (emp) (am b3 [I p.id, .bool p.more, I p.off, I p.ttl, I p.proto, U8 p.s0, U8 p.s1, U8 p.s2, U8 p.s3, U8 p.d0, U8 p.d1, U8 p.d2, U8 p.d3, .string p.data] 39) [13, 15, 17] ae<|pe 0 r r<|ps 1 r (aj r)<|dv 2 r (by kernel_rfl) (ar r (aC r)) r<|ps 3 r (aX r)<|ps 4 r ((aM r r).as (v' := .bool (decide (e < p.data.size))) (congrArg Value.bool (decide_eq_decide.2 (by omega))))<|pe 5 r r<|ps 6 r ((nP r r (by omega)).as (v' := I ((a / 8 : Nat) : Int)) r)<|ps 7 r (aj r)<|dv 8 r (by kernel_rfl) (ar r (aC r)) r<|pe 9 r r<|pe 10 r r<|ps 11 r ((kO r r r (by omega)).as (v' := .string (p.data.extract a e)) (by rw [Int.toNat_natCast, Int.toNat_natCast]))<|ps 12 r (aj r)<|jv 13 r r (by kernel_rfl) (dU r r r) fun _ _=>qJ 14 r (by kernel_rfl) (aj r) r<|jv 15 r r (by kernel_rfl) (dU r r r) fun _ _=>qJ 16 r (by kernel_rfl) (aj r) r<|jv 17 r r (by kernel_rfl) (dU r r r) fun _ _=>dn<|kt<|sr<|ls r<|so r r<|nk<|jr ?_
 exact uR (Q := fun _ _ _ => True) rfl rfl rfl () trivial rfl Ent.take
abbrev _root_.Go.qq2 (a : Pk) : List Value := [I a.id, .bool a.more, I a.off, I a.ttl, I a.proto, U8 a.s0, U8 a.s1, U8 a.s2, U8 a.s3, U8 a.d0, U8 a.d1, U8 a.d2, U8 a.d3, .string a.data]
theorem tR (p : Pk) (m : Int) (h : ¬ iH m) : FSpec prog 9 #[.agg (qq2 p).toArray, I m] (emp) (fun _ : Unit => True) (fun _ => .tuple #[Ns, I 1]) (fun _ => emp) := by
 refine en func9 r fun _ F=>bG<|sr<|lx r (aV (l := (qq2 p)) r r) fun b2 _=>eb r<|nk<|gz<|sa r<|cy (yl m h) r fun _=>cj<|ea r<|lv (ap r r) r<|lv (ap r r) r<|eb r<|nj<|jb<|sa r<|eR r<|an r<|ct r<|sr<|ec r<|nk<|jr<|kq<|kd<|kw ?_
 exact cH rfl rfl rfl () trivial (rfl) Ent.take
theorem sH (p : Pk) (m : Nat) (h : 64 <= m /\ m <= 1518) (hf : p.more = true \/ p.off ≠ 0) : FSpec prog 9 #[.agg (qq2 p).toArray, I (m : Nat)] (emp) (fun _ : Unit => True) (fun _ => .tuple #[Ns, I 15]) (fun _ => emp) := by
 refine en func9 r fun _ F=>bG<|sr<|lx r (aV (l := (qq2 p)) r r) fun b2 _=>eb r<|nk<|gz<|sa r<|cy (qI m h) r fun _=>cj<|ea r<|lv (ap r r) r<|lv (ap r r) r<|eb r<|nj<|jb<|sa r<|bJ r<|an r<|cf r<|sr<|fz r<|lv ((ar r (aC r)).as (v' := .bool (decide (p.more = true))) (by simp)) r<|ea r ?_
 refine il rfl rfl (fun h1 => ?_) (fun h1 => ?_) (fun _ h => by cases h; rfl)
 ·refine fz r<|bR h1 r r<|ld r r<|bR h1 r r<|lv (bs r r) r<|lv (bo r h1 r) r<|an r ?_
  refine aG rfl (fun h2 => ?_) (fun h2 => by exfalso; rcases hf with hf | hf <;> contradiction)
  refine sb r<|nk<|jr<|kq<|kd<|kw ?_
  exact cH rfl rfl rfl () trivial (rfl) Ent.take
 ·refine jf h1 rfl ?_
  refine jf h1 rfl<|lv (bi r h1 r) r<|an r<|ct r<|sb r<|nk<|jr<|kq<|kd<|kw ?_
  exact cH rfl rfl rfl () trivial (rfl) Ent.take
theorem tS (p : Pk) (m : Nat) (h : 64 <= m /\ m <= 1518) (hf : p.more = false) (ho : p.off = 0) (hl : 65515 < p.data.size) : FSpec prog 9 #[.agg (qq2 p).toArray, I (m : Nat)] (emp) (fun _ : Unit => True) (fun _ => .tuple #[Ns, I 11]) (fun _ => emp) := by
 refine en func9 r fun _ F=>bG<|sr<|lx r (aV (l := (qq2 p)) r r) fun b2 _=>eb r<|nk<|gz<|sa r<|cy (qI m h) r fun _=>cj<|ea r<|lv (ap r r) r<|lv (ap r r) r<|eb r<|nj<|jb<|sa r<|bJ r<|an r<|cf r<|sr<|fz r<|lv ((ar r (aC r)).as (v' := Ff) (by rw [hf])) r<|ea r<|go r<|fz r<|go r<|ld r r<|go r<|lv ((bs r r).bool_f (fun n => n ho)) r<|bf r<|sr<|fz r<|ld r r<|lv (aX r) r<|eR r<|an r<|ct r<|sb r<|nk<|jr<|kq<|kd<|kw ?_
 exact cH rfl rfl rfl () trivial (rfl) Ent.take
theorem yi (p : Pk) (m : Nat) (h : 64 <= m /\ m <= 1518) (hf : p.more = false) (ho : p.off = 0) (hl : p.data.size <= 65515) : FSpec prog 9 #[.agg (qq2 p).toArray, I (m : Nat)] (emp) (fun r : Option Addr × Nat => True) (fun r => .tuple #[.slice r.1 (cW p (m - 39) (bD m) 0).length r.2, I 0]) (fun r => Ow 39 14 (.slice r.1 (cW p (m - 39) (bD m) 0).length r.2) (cW p (m - 39) (bD m) 0).length ((cW p (m - 39) (bD m) 0).flatMap ef)) := by
 have hr := lw h.1
 have h0l : ([] : List Pk).length = 0 := rfl
 refine en func9 rfl fun _ F=>bG<|fC (aa (Ow 39 14 (Ns) ([] : List Pk).length (([] : List Pk).flatMap ef)) (F)) (Ent.trans (Ent.of (bN F).symm) ((Ow.nil 39 14).frame F))<|sr<|lx rfl (aV (l := (qq2 p)) rfl rfl) fun b2 _=>eb rfl<|nk ?_
 refine A4 (X := Nat × (Option Addr × Nat) × List Pk) 0 _ rfl (fun y => [(1, I (m : Nat)), (2, Pt b2 0), (6, I (bD m : Nat)), (8, .slice y.2.1.1 y.2.2.length y.2.1.2), (9, I (y.1 : Nat))]) (fun y => (aa (am b2 (qq2 p) 39) (aa (Ow 39 14 (.slice y.2.1.1 y.2.2.length y.2.1.2) y.2.2.length (y.2.2.flatMap ef)) (F)))) (fun y => y.1 <= p.data.size /\ y.2.2.length <= y.1 /\ y.2.2 ++ cW p (m - 39) (bD m) y.1 = cW p (m - 39) (bD m) 0) (fun y => p.data.size - y.1) ?_ (fun y hy => ?_)
 ·refine sa rfl<|cy (qI m h) rfl fun _=>cj<|ea rfl<|lv (ap rfl rfl) rfl<|lv (ap rfl rfl) rfl<|eb rfl<|nj<|jb<|sa rfl<|bJ rfl<|an rfl<|cf rfl<|sr<|fz rfl<|lv ((ar rfl (aC rfl)).as (v' := Ff) (by rw [hf])) rfl ?_
  refine ea rfl<|go rfl<|fz rfl<|go rfl<|ld rfl rfl<|go rfl<|lv ((bs rfl rfl).bool_f (fun n => n ho)) rfl<|bf rfl<|sr<|fz rfl<|ld rfl rfl<|lv (aX rfl) rfl<|bJ rfl<|an rfl<|cf rfl<|cY<|aE rfl<|aE rfl<|js<|A6<|kt<|js<|js<|dM ae<|qz rfl<|ql rfl rfl<|qv (aX rfl) rfl<|qa rfl<|qv (bm rfl rfl (by omega)) rfl<|qa rfl<|dy (kG m (by omega)) rfl rfl (fun _ _ => rfl) (fun _ _ => ah _) rfl<|qv (bt rfl rfl) rfl<|qn<|kt ?_
  refine aG rfl (fun h1 => ?_) (fun h1 => ?_)
  ·refine sa rfl<|ls rfl<|ec rfl<|lv ((aQ rfl rfl (by omega)).as (v' := I ((0 + bD m : Nat) : Int)) (congrArg (Value.int .i64) (by omega))) rfl<|cy (j9 p (0) (0 + bD m) (by omega) (by omega) (by omega)) rfl fun _=>cj<|lx rfl (aq (m := 14) rfl rfl (by omega) (by omega) rfl) fun b47 _=>lx rfl (cO (m := 14) (B := 64) rfl rfl (Src.lit) rfl (by omega) rfl (kj _) (by unfold maxLen; omega) (by omega) rfl) fun y48 _=>an rfl<|sb rfl<|lv ((aQ rfl rfl (by omega)).as (v' := I ((0 + bD m : Nat) : Int)) (congrArg (Value.int .i64) (by omega))) rfl<|an rfl<|yQ<|mX ?_
   rw [show ([] : List Pk).length + 1 = (([] : List Pk) ++ [iu p 0 (0 + bD m)]).length by simp, show ([] : List Pk).flatMap ef ++ ef (iu p 0 (0 + bD m)) = (([] : List Pk) ++ [iu p 0 (0 + bD m)]).flatMap ef by simp]
   have hs := jJ (p := p) (w := m - 39) (r := bD m) (a := 0) (by omega) (by omega)
   exact A3 (0 + bD m, y48, ([] : List Pk) ++ [iu p 0 (0 + bD m)]) ⟨by show 0 + bD m <= _; omega, by show 1 <= 0 + bD m; omega, by rw [hs]; rfl⟩ ⟨rfl, rfl, rfl, rfl, rfl, trivial⟩ Ent.take
  ·refine sk<|sa rfl<|ls rfl<|ea rfl<|fz rfl<|ld rfl rfl<|lv (aX rfl) rfl<|cy (j9 p (0) p.data.size (by omega) (by omega) (by omega)) rfl fun _=>cj<|lx rfl (aq (m := 14) rfl rfl (by omega) (by omega) rfl) fun b59 _=>lx rfl (cO (m := 14) (B := 64) rfl rfl (Src.lit) rfl (by omega) rfl (kj _) (by unfold maxLen; omega) (by omega) rfl) fun y60 _=>eb rfl<|nk<|jr<|ox ?_
   rw [show ([] : List Pk).length + 1 = (([] : List Pk) ++ [iu p 0 (p.data.size)]).length by simp, show ([] : List Pk).flatMap ef ++ ef (iu p 0 (p.data.size)) = (([] : List Pk) ++ [iu p 0 (p.data.size)]).flatMap ef by simp]
   have hb := iF (p := p) (w := m - 39) (r := bD m) (a := 0) (by omega)
   have hfin : ([] : List Pk) ++ [iu p 0 p.data.size] = cW p (m - 39) (bD m) 0 := by rw [hb]; rfl
   rw [hfin]
   exact cH rfl rfl rfl y60 trivial rfl Ent.take
 ·obtain ⟨ha, hq, hy⟩ := hy
  refine js<|sk<|js<|js<|dM ae<|qz rfl<|ql rfl rfl<|qv (aX rfl) rfl<|qa rfl<|qv (bm rfl rfl (by omega)) rfl<|qa rfl<|dy (kG m (by omega)) rfl rfl (fun _ _ => rfl) (fun _ _ => ah _) rfl<|qv (bt rfl rfl) rfl<|qn<|kt ?_
  refine aG rfl (fun h2 => ?_) (fun h2 => ?_)
  ·refine sa rfl<|ls rfl<|ec rfl<|lv ((aQ rfl rfl (by omega)).as (v' := I ((y.1 + bD m : Nat) : Int)) (congrArg (Value.int .i64) (by omega))) rfl<|cy (j9 p (y.1) (y.1 + bD m) (by omega) (by omega) (by omega)) rfl fun _=>cj<|lx rfl (aq (m := 14) rfl rfl (by omega) (by omega) rfl) fun b47 _=>lx rfl (cO (m := 14) (B := 64) rfl rfl (Src.lit) rfl (by omega) rfl (kj _) (by unfold maxLen; omega) (by omega) rfl) fun y48 _=>an rfl<|sb rfl<|lv ((aQ rfl rfl (by omega)).as (v' := I ((y.1 + bD m : Nat) : Int)) (congrArg (Value.int .i64) (by omega))) rfl<|an rfl<|yQ<|mX ?_
   rw [show y.2.2.length + 1 = (y.2.2 ++ [iu p y.1 (y.1 + bD m)]).length by simp, show y.2.2.flatMap ef ++ ef (iu p y.1 (y.1 + bD m)) = (y.2.2 ++ [iu p y.1 (y.1 + bD m)]).flatMap ef by simp]
   have hs := jJ (p := p) (w := m - 39) (r := bD m) (a := y.1) (by omega) (by omega)
   exact AZ (y.1 + bD m, y48, y.2.2 ++ [iu p y.1 (y.1 + bD m)]) ⟨by show y.1 + bD m <= _; omega, by show (y.2.2 ++ [_]).length <= y.1 + bD m; rw [List.length_append]; simp only [List.length_cons, List.length_nil]; omega, by show (y.2.2 ++ [iu p y.1 (y.1 + bD m)]) ++ cW p (m - 39) (bD m) (y.1 + bD m) = _; rw [<- hy, hs, List.append_assoc]; rfl⟩ (by show _ - (y.1 + bD m) < _; omega) ⟨rfl, rfl, rfl, rfl, rfl, trivial⟩ Ent.take
  ·refine sk<|sa rfl<|ls rfl<|ea rfl<|fz rfl<|ld rfl rfl<|lv (aX rfl) rfl<|cy (j9 p (y.1) p.data.size (by omega) (by omega) (by omega)) rfl fun _=>cj<|lx rfl (aq (m := 14) rfl rfl (by omega) (by omega) rfl) fun b59 _=>lx rfl (cO (m := 14) (B := 64) rfl rfl (Src.lit) rfl (by omega) rfl (kj _) (by unfold maxLen; omega) (by omega) rfl) fun y60 _=>eb rfl<|nk<|jr<|ox ?_
   rw [show y.2.2.length + 1 = (y.2.2 ++ [iu p y.1 (p.data.size)]).length by simp, show y.2.2.flatMap ef ++ ef (iu p y.1 (p.data.size)) = (y.2.2 ++ [iu p y.1 (p.data.size)]).flatMap ef by simp]
   have hb := iF (p := p) (w := m - 39) (r := bD m) (a := y.1) (by omega)
   have hfin : y.2.2 ++ [iu p y.1 p.data.size] = cW p (m - 39) (bD m) 0 := by rw [<- hy, hb]
   rw [hfin]
   exact cH rfl rfl rfl y60 trivial rfl Ent.take
end
section
theorem sY {p : Pk} {w r : Nat} {M : Nat -> List Pk -> Prop} (h1 : ∀ a, ¬ a + w < p.data.size -> M a [iu p a p.data.size]) (h2 : ∀ a l, a + w < p.data.size -> M (a + r) l -> M a (iu p a (a + r) :: l)) (hr : 0 < r) : ∀ a, M a (cW p w r a) := by
 intro a
 generalize hn : p.data.size - a = n
 induction n using Nat.strongRecOn generalizing a with
 | _ n ih =>
  by_cases h : a + w < p.data.size
  ·rw [jJ h hr]
   exact h2 a _ h (ih _ (by omega) (a + r) rfl)
  ·rw [iF h]
   exact h1 a h
def eU (p : Pk) (m : Int) : List Pk := if ia p m = 0 then cW p (m.toNat - 39) (bD m.toNat) 0 else []
theorem vS (p : Pk) (m : Int) : FSpec prog 9 #[.agg [I p.id, .bool p.more, I p.off, I p.ttl, I p.proto, U8 p.s0, U8 p.s1, U8 p.s2, U8 p.s3, U8 p.d0, U8 p.d1, U8 p.d2, U8 p.d3, .string p.data].toArray, I m] emp (fun _ : Option Addr × Nat => True) (fun r => .tuple #[.slice r.1 (eU p m).length r.2, I (ia p m)]) (fun r => Ow 39 14 (.slice r.1 (eU p m).length r.2) (eU p m).length ((eU p m).flatMap ef)) := by
 have nil : ∀ c : Int, c ≠ 0 -> ia p m = c -> FSpec prog 9 #[.agg [I p.id, .bool p.more, I p.off, I p.ttl, I p.proto, U8 p.s0, U8 p.s1, U8 p.s2, U8 p.s3, U8 p.d0, U8 p.d1, U8 p.d2, U8 p.d3, .string p.data].toArray, I m] emp (fun _ : Unit => True) (fun _ => .tuple #[Ns, I c]) (fun _ => emp) -> FSpec prog 9 #[.agg [I p.id, .bool p.more, I p.off, I p.ttl, I p.proto, U8 p.s0, U8 p.s1, U8 p.s2, U8 p.s3, U8 p.d0, U8 p.d1, U8 p.d2, U8 p.d3, .string p.data].toArray, I m] emp (fun _ : Option Addr × Nat => True) (fun r => .tuple #[.slice r.1 (eU p m).length r.2, I (ia p m)]) (fun r => Ow 39 14 (.slice r.1 (eU p m).length r.2) (eU p m).length ((eU p m).flatMap ef)) := fun c hc e h => by
  have : eU p m = [] := by unfold eU; rw [if_neg (by rw [e]; exact hc)]
  rw [this, e]
  exact h.conseq (ah _) fun _ _ => ⟨(none, 0), trivial, rfl, Ow.nil _ 14⟩
 by_cases h : iH m
 ·obtain ⟨k, rfl⟩ : ∃ k : Nat, m = k := ⟨m.toNat, by unfold iH at h; omega⟩
  have h' : 64 <= k /\ k <= 1518 := by unfold iH at h; omega
  by_cases hf : p.more = true \/ p.off ≠ 0
  ·exact nil 15 (by decide) (by unfold ia; rw [if_neg (fun n => n h), if_pos hf]) (sH p k h' hf)
  ·have hm : p.more = false := by cases hm : p.more with
    | false => rfl
    | true => exact absurd (.inl hm) hf
   have ho : p.off = 0 := Classical.not_not.1 fun n => hf (.inr n)
   by_cases hl : 65515 < p.data.size
   ·exact nil 11 (by decide) (by unfold ia; rw [if_neg (fun n => n h), if_neg hf, if_pos hl]) (tS p k h' hm ho hl)
   ·have e : ia p k = 0 := by unfold ia; rw [if_neg (fun n => n h), if_neg hf, if_neg hl]
    have e2 : eU p k = cW p (k - 39) (bD k) 0 := by unfold eU; rw [if_pos e]; rfl
    rw [e, e2]
    exact yi p k h' hm ho (by omega)
 ·exact nil 1 (by decide) (by unfold ia; rw [if_pos h]) (tR p m h)
attribute [local irreducible] eU ia
def u2 : Pk := ⟨0, false, 0, 0, 0, 0, 0, 0, 0, 0, 0, 0, 0, ⟨#[]⟩⟩
end
def Pk.src (p : Pk) : List Int := [p.s0, p.s1, p.s2, p.s3]
def Pk.dst (p : Pk) : List Int := [p.d0, p.d1, p.d2, p.d3]
theorem okPk.src {p : Pk} (h : okPk p) : ∀ v ∈ p.src, 0 <= v /\ v < 256 := by
 obtain ⟨_, _, _, _, h0, h1, h2, h3, _⟩ := h
 intro v hv
 simp only [Pk.src, List.mem_cons, List.not_mem_nil, or_false] at hv
 rcases hv with rfl | rfl | rfl | rfl <;> exact He (by assumption)
theorem okPk.dst {p : Pk} (h : okPk p) : ∀ v ∈ p.dst, 0 <= v /\ v < 256 := by
 obtain ⟨_, _, _, _, _, _, _, _, h0, h1, h2, h3, _⟩ := h
 intro v hv
 simp only [Pk.dst, List.mem_cons, List.not_mem_nil, or_false] at hv
 rcases hv with rfl | rfl | rfl | rfl <;> exact He (by assumption)
theorem Dc (p : Nat) (s : ByteArray) (k : Nat) (hk : k <= 255) (hs : s.size <= 1099511627776) : FSpec prog 31 #[Pt p 0, I k] (WrP p s false) (fun _ : Unit => True) (fun _ => .tuple #[]) (fun _ => WrP p (s ++ be k 1) false) := by
 have := qB p s false k (by omega) hs
 rwa [nK rfl (by show k / 256 = 0; omega) (by decide)] at this
section
def fw (b : Bool) : Int := if b = true then 1 else 0
def fi (p : Pk) : Prop := (0 <= p.id /\ p.id <= 65535) /\ (0 <= p.off /\ p.off <= 8191) /\ (0 <= p.ttl /\ p.ttl <= 255) /\ (0 <= p.proto /\ p.proto <= 255)
def dT (p : Pk) : Nat := (if p.more = true then 8192 else 0) + p.off.toNat
def hA (p : Pk) (n : Nat) : ByteArray := be 69 1 ++ be 0 1 ++ be n 2 ++ be p.id.toNat 2 ++ be (dT p) 2 ++ be p.ttl.toNat 1 ++ be p.proto.toNat 1
def hB (p : Pk) : ByteArray := aY p.src ++ aY p.dst
def io (p : Pk) (n sum : Nat) : ByteArray := hA p n ++ be sum 2 ++ hB p
theorem FH (p : Pk) : aY [p.s0, p.s1, p.s2, p.s3] ++ aY [p.d0, p.d1, p.d2, p.d3] = hB p := rfl
def iD (p : Pk) : ByteArray := io p (20 + p.data.size) (gn (io p (20 + p.data.size) 0)) ++ p.data
theorem lP (p : Pk) (n : Nat) : (hA p n).size = 10 := by unfold hA; simp only [ByteArray.size_append, bu]
theorem lO (p : Pk) : (hB p).size = 8 := by unfold hB; rw [ByteArray.size_append, aZ, aZ]; rfl
theorem jR (p : Pk) (n m : Nat) : (io p n m).size = 20 := by unfold io; rw [ByteArray.size_append, ByteArray.size_append, lP, lO, bu]
theorem lA (p : Pk) : (iD p).size = 20 + p.data.size := by unfold iD; rw [ByteArray.size_append, jR]
theorem FL (p : Pk) (n m : Nat) : (io p n m).extract 0 10 = hA p n := by
 unfold io
 rw [ByteArray.append_assoc]
 exact ByteArray.extract_append_eq_left (by rw [lP])
theorem FK (p : Pk) (n m : Nat) : (io p n m).extract 12 (io p n m).size = hB p := by
 have e : (hA p n ++ be m 2).size = 12 := by rw [ByteArray.size_append, lP, bu]
 rw [jR]
 unfold io
 exact ByteArray.extract_append_eq_right (by rw [e]) (by rw [e, lO])
theorem okPk.i {p : Pk} (h : okPk p) : (-9223372036854775808 <= p.id /\ p.id <= 9223372036854775807) /\ (-9223372036854775808 <= p.off /\ p.off <= 9223372036854775807) /\ (-9223372036854775808 <= p.ttl /\ p.ttl <= 9223372036854775807) /\ (-9223372036854775808 <= p.proto /\ p.proto <= 9223372036854775807) :=
 ⟨zl h.1, zl h.2.1, zl h.2.2.1, zl h.2.2.2.1⟩
theorem nX {m : Int} {w : Nat} (hw : w <= 64) : jE m w ↔ 0 <= m /\ m < 2 ^ w := by
 unfold jE
 rw [Int.toNat_natCast, Nat.min_eq_left hw]
 have hp : (0 : Int) < 2 ^ w := Int.pow_pos (by decide)
 constructor
 ·rintro ⟨h0, h1⟩
  refine ⟨h0, ?_⟩
  rcases Int.lt_or_le m (2 ^ w) with h | h
  ·exact h
  ·have h3 : 1 <= m / 2 ^ w := by rw [Int.le_ediv_iff_mul_le hp]; omega
   omega
 ·rintro ⟨h0, h1⟩
  exact ⟨h0, Int.ediv_eq_zero_of_lt h0 h1⟩
theorem HN (f o : Int) : ¬ (kz [2, 1, 13] = 0 \/ ([2, 1, 13] : List Int).length ≠ ([0, f, o] : List Int).length) := by
 rintro (h | h)
 ·exact absurd h (by decide)
 ·exact h rfl
theorem vB (s : ByteArray) (p : Pk) (h : 0 <= p.off /\ p.off <= 8191) : iQ s false [2, 1, 13] [0, fw p.more, p.off] = (s ++ be (dT p) 2, false) := by
 have hf : fw p.more = 0 \/ fw p.more = 1 := by unfold fw; split <;> simp
 have h0 : jE 0 (Int.toNat 2) := (nX (by decide)).2 ⟨by decide, by decide⟩
 have h1 : jE (fw p.more) (Int.toNat 1) := (nX (by decide)).2 ⟨by omega, by show fw p.more < 2 ^ 1; have : (2 : Int) ^ 1 = 2 := (by decide); omega⟩
 have h2 : jE p.off (Int.toNat 13) := (nX (by decide)).2 ⟨by omega, by show p.off < 2 ^ 13; have : (2 : Int) ^ 13 = 8192 := (by decide); omega⟩
 have hp : m3 0 [2, 1, 13] [0, fw p.more, p.off] = some (dT p) := by
  rw [m3, if_pos h0, m3, if_pos h1, m3, if_pos h2]
  show some (((0 * 2 ^ Int.toNat 2 + Int.toNat 0) * 2 ^ Int.toNat 1 + (fw p.more).toNat) * 2 ^ Int.toNat 13 + p.off.toNat) = _
  refine congrArg some ?_
  unfold dT fw
  have e1 : 2 ^ Int.toNat 2 = 4 := rfl
  have e2 : 2 ^ Int.toNat 1 = 2 := rfl
  have e3 : 2 ^ Int.toNat 13 = 8192 := rfl
  rw [e1, e2, e3]
  split
  ·have e4 : Int.toNat 1 = 1 := rfl
   rw [e4]; rfl
  ·have e4 : Int.toNat 0 = 0 := rfl
   rw [e4]
 unfold iQ
 rw [if_neg (by decide), if_neg (HN _ _), hp]
 show jK s false (dT p : Nat) 2 = _
 have hpn : dT p <= 16383 := by unfold dT; split <;> omega
 exact nK rfl (by show dT p / 65536 = 0; omega) (by decide)
theorem tE (s : ByteArray) (ws ls : List Int) : iQ s true ws ls = (s, true) := by unfold iQ; rw [if_pos rfl]
abbrev _root_.Go.qq21 (a : Nat) (b : Pk) (c : Nat) := aa (am a [I 0, I (fw b.more), I b.off] 3) (am c [I 2, I 1, I 13] 3)
theorem wq (p b1 b2 : Nat) (s : ByteArray) (bad : Bool) (pk : Pk) (hp : okPk pk) (hs : s.size <= 1099511627776) : FSpec prog 32 #[Pt p 0, Sk b1 0 3 3, Sk b2 0 3 3] (aa (WrP p s bad) ((qq21 b2 pk b1))) (fun _ : Unit => True) (fun _ => .tuple #[]) (fun _ => (aa (WrP p (iQ s bad [2, 1, 13] [0, fw pk.more, pk.off]).1 (iQ s bad [2, 1, 13] [0, fw pk.more, pk.off]).2) ((qq21 b2 pk b1)))) := by
 have hf : fw pk.more = 0 \/ fw pk.more = 1 := by unfold fw; split <;> simp
 cases bad with
 | true =>
  rw [tE]
  exact (yZ p s _ _).frame _
 | false =>
  exact Bf p s (qq21 b2 pk b1) (some (ad b1 0)) (some (ad b2 0)) 3 3 [2, 1, 13] [0, fw pk.more, pk.off] (RdS.lit (b := b1) (cells := [I 2, I 1, I 13]) rfl n2) (RdS.lit (b := b2) (cells := [I 0, I (fw pk.more), I pk.off]) rfl n2) ⟨by decide, by show 3 <= 1000000; decide⟩ (by decide)
   (fun v hv => by simp only [List.mem_cons, List.not_mem_nil, or_false] at hv; have := hp.i.2.1; rcases hv with rfl | rfl | rfl <;> omega) (by decide) rfl hs
attribute [local irreducible] be gn io iQ fw dT
theorem kN  : FSpec prog 33 #[] (emp) (fun b : Nat => True) (fun b => Sk b 0 3 3) (fun b => am b [I 2, I 1, I 13] 3) := by
 refine en func33 r fun _ F=>bG<|aE r<|sr<|lx r (cL r r r (by decide) (by simp [Value.cells]) r) fun b _=>an r<|jr ?_
 exact aD rfl rfl b trivial rfl (ah _)
theorem vu (x : Bool) : FSpec prog 34 #[.bool x] (emp) (fun _ : Unit => True) (fun _ => I (fw x)) (fun _ => emp) := by
 refine en func34 r fun _ F=>aE r<|js<|aE r ?_
 refine gP rfl (fun h1 => ?_) (fun h1 => ?_)
 ·refine aE r<|jr<|kd ?_
  exact aD rfl rfl () trivial (by unfold fw; rw [if_pos (by assumption)]) (ah _)
 ·refine sk<|aE r<|jr ?_
  exact aD rfl rfl () trivial (by unfold fw; rw [if_neg (by simp_all)]) (ah _)
theorem wn (p b1 b2 : Nat) (s : ByteArray) (pk : Pk) (hp : okPk pk) (h : 0 <= pk.off /\ pk.off <= 8191) (hs : s.size <= 1099511627776) : FSpec prog 32 #[Pt p 0, Sk b1 0 3 3, Sk b2 0 3 3] (aa (WrP p s false) ((qq21 b2 pk b1))) (fun _ : Unit => True) (fun _ => .tuple #[]) (fun _ => (aa (WrP p (s ++ be (dT pk) 2) false) ((qq21 b2 pk b1)))) := by
 have := wq p b1 b2 s false pk hp hs
 rwa [vB s pk h] at this
theorem Gw (p : Nat) (s : ByteArray) (m : Int) (hk : 0 <= m /\ m <= 255) (hs : s.size <= 1099511627776) : FSpec prog 31 #[Pt p 0, I m] (WrP p s false) (fun _ : Unit => True) (fun _ => .tuple #[]) (fun _ => WrP p (s ++ be m.toNat 1) false) := by
 obtain ⟨k, rfl⟩ : ∃ k : Nat, m = k := ⟨m.toNat, by omega⟩
 exact Dc p s k (by omega) hs
theorem Cx (p : Pk) (n m : Nat) : be 69 1 ++ be 0 1 ++ be n 2 ++ be p.id.toNat 2 ++ be (dT p) 2 ++ be p.ttl.toNat 1 ++ be p.proto.toNat 1 ++ be m 2 ++ hB p = io p n m := by unfold io hA; rfl
theorem xB (p : Pk) (n : Nat) : be 69 1 ++ be 0 1 ++ be n 2 ++ be p.id.toNat 2 ++ be (dT p) 2 ++ be p.ttl.toNat 1 ++ be p.proto.toNat 1 ++ be 0 2 ++ hB p = io p n 0 := Cx p n 0
theorem Ch (p : Pk) {n : Nat} (hn : n = 20 + p.data.size) : hA p n ++ be (gn (io p n 0)) 2 ++ (hB p ++ p.data) = iD p := by
 subst hn
 unfold iD
 rw [<- ByteArray.append_assoc]
 unfold io
 rfl
attribute [local irreducible] iD hA hB
set_option maxHeartbeats 1000000 in
theorem qX (p : Pk) (hp : okPk p) (h : fi p) (hd : p.data.size <= 65515) : FSpec prog 11 #[.agg [I p.id, .bool p.more, I p.off, I p.ttl, I p.proto, U8 p.s0, U8 p.s1, U8 p.s2, U8 p.s3, U8 p.d0, U8 p.d1, U8 p.d2, U8 p.d3, .string p.data].toArray] (emp) (fun _ : Unit => True) (fun _ => .tuple #[.string (iD p), I 0]) (fun _ => emp) := by
 obtain ⟨nn, hnn1⟩ : ∃ nn : Nat, nn = min (20 + p.data.size) 65535 := ⟨_, rfl⟩
 have hnn : nn <= 65535 := by omega
 have hi := hp.i
 obtain ⟨hf1, hf2, hf3, hf4⟩ := h
 have hzh := jR p nn 0
 have hzb := lO p
 have hza := lP p nn
 refine en func11 r fun _ F=>bG<|sr<|lx r (aV (l := [I p.id, .bool p.more, I p.off, I p.ttl, I p.proto, U8 p.s0, U8 p.s1, U8 p.s2, U8 p.s3, U8 p.d0, U8 p.d1, U8 p.d2, U8 p.d3, .string p.data]) r r) fun b1 _=>eb r<|nr<|lv (af r) r<|bx r fun w=>an r<|js<|fC _ kl<|jg<|ea r<|cy (Dc w (aY []) 69 (by decide) (by decide)) r fun _=>?_
 rw [lJ]
 refine nr<|ea r<|cy (Dc w (be 69 1) 0 (by decide) (by simp only [ByteArray.size_append, bu, aZ]; decide)) r fun _=>nr<|ea r<|fz r<|ld r r<|lv (aX r) r<|gE r<|lv ((nl r r).as (v' := I (nn : Nat)) (congrArg (Value.int .i64) (by split <;> omega))) r<|cy (iB w (be 69 1 ++ be 0 1) nn hnn (by simp only [ByteArray.size_append, bu, aZ]; decide)) r fun _=>nr<|ea r<|fz r<|ld r r<|cy (xZ w (be 69 1 ++ be 0 1 ++ be nn 2) p.id hf1 (by simp only [ByteArray.size_append, bu, aZ]; decide)) r fun _=>nj<|av (am b1 [I p.id, .bool p.more, I p.off, I p.ttl, I p.proto, U8 p.s0, U8 p.s1, U8 p.s2, U8 p.s3, U8 p.d0, U8 p.d1, U8 p.d2, U8 p.d3, .string p.data] 39) (am b1 [I p.id, .bool p.more, I p.off, I p.ttl, I p.proto, U8 p.s0, U8 p.s1, U8 p.s2, U8 p.s3, U8 p.d0, U8 p.d1, U8 p.d2, U8 p.d3, .string p.data] 39) [] ae<|pe 0 r r<|ps 2 r (aj r)<|dv 3 r (by kernel_rfl) (ar r (aC r)) r<|ps 5 r (aj r)<|dv 6 r (by kernel_rfl) (ar r (aC r)) r<|pn 1 r (ai (kN) r r r) fun bp _=>pn 4 r (ai (vu p.more) r r r) fun _ _=>kW<|pn 7 r (cL r r r (by omega) (by simp [Value.cells]) r) fun b32 _=>pn 8 r (ai (wn w bp b32 (be 69 1 ++ be 0 1 ++ be nn 2 ++ be p.id.toNat 2) p hp hf2 (by simp only [ByteArray.size_append, bu, aZ]; decide)) r r r) fun _ _=>dn<|kt<|sa r<|fz r<|ld r r<|cy (Gw w (be 69 1 ++ be 0 1 ++ be nn 2 ++ be p.id.toNat 2 ++ be (dT p) 2) p.ttl hf3 (by simp only [ByteArray.size_append, bu, aZ]; decide)) r fun _=>nr<|ea r<|fz r<|ld r r<|cy (Gw w (be 69 1 ++ be 0 1 ++ be nn 2 ++ be p.id.toNat 2 ++ be (dT p) 2 ++ be p.ttl.toNat 1) p.proto hf4 (by simp only [ByteArray.size_append, bu, aZ]; decide)) r fun _=>nr<|ea r<|cy (iB w (be 69 1 ++ be 0 1 ++ be nn 2 ++ be p.id.toNat 2 ++ be (dT p) 2 ++ be p.ttl.toNat 1 ++ be p.proto.toNat 1) 0 (by decide) (by simp only [ByteArray.size_append, bu, aZ]; decide)) r fun _=>nj<|av (am b1 [I p.id, .bool p.more, I p.off, I p.ttl, I p.proto, U8 p.s0, U8 p.s1, U8 p.s2, U8 p.s3, U8 p.d0, U8 p.d1, U8 p.d2, U8 p.d3, .string p.data] 39) (am b1 [I p.id, .bool p.more, I p.off, I p.ttl, I p.proto, U8 p.s0, U8 p.s1, U8 p.s2, U8 p.s3, U8 p.d0, U8 p.d1, U8 p.d2, U8 p.d3, .string p.data] 39) [] ae<|pe 0 r r<|ps 1 r (aj r)<|ps 2 r (eV r)<|ps 3 r (rO [p.s0, p.s1, p.s2, p.s3] r r r hp.src)<|ps 4 r (aj r)<|ps 5 r (eV r)<|ps 6 r (rO [p.d0, p.d1, p.d2, p.d3] r r r hp.dst)<|ps 7 r ((ej r r (by rw [aZ, aZ]; show 4 + 4 <= 9223372036854775807; decide)).as (v' := .string (hB p)) (congrArg Value.string (FH p)))<|pn 8 r (ai (fA w (be 69 1 ++ be 0 1 ++ be nn 2 ++ be p.id.toNat 2 ++ be (dT p) 2 ++ be p.ttl.toNat 1 ++ be p.proto.toNat 1 ++ be 0 2) (hB p) (by simp only [ByteArray.size_append, bu, aZ]; decide) (by rw [lO]; decide)) r r r) fun _ _=>dn<|kt<|js ?_
 rw [xB]
 refine jg<|ea r<|cy (im w (io p nn 0)) r fun _=>ea r<|lv (ap r r) r<|lv (ap r r) r<|eb r<|nj<|jb<|sa r<|bJ r<|an r<|cf r<|sr<|fz r<|ld r r<|lv (aX r) r<|bJ r<|an r<|cf r<|cY<|sr<|lv (af r) r<|bx r fun w2=>an r<|js<|fC _ kl<|jg<|eb r<|lv ((dW r r (by omega)).as (v' := .string (hA p nn)) (congrArg Value.string (FL p nn 0))) r<|cy (fA w2 (aY []) (hA p nn) (by decide) (by omega)) r fun _=>nj ?_
 rw [lJ]
 refine jg<|eb r<|cy (kp (io p nn 0) (by omega)) r fun _=>cj<|cy (iB w2 (hA p nn) (gn (io p nn 0)) (qc _) (by omega)) r fun _=>nj<|av (am b1 [I p.id, .bool p.more, I p.off, I p.ttl, I p.proto, U8 p.s0, U8 p.s1, U8 p.s2, U8 p.s3, U8 p.d0, U8 p.d1, U8 p.d2, U8 p.d3, .string p.data] 39) (am b1 [I p.id, .bool p.more, I p.off, I p.ttl, I p.proto, U8 p.s0, U8 p.s1, U8 p.s2, U8 p.s3, U8 p.d0, U8 p.d1, U8 p.d2, U8 p.d3, .string p.data] 39) [] ae<|pe 0 r r<|pe 1 r r<|ps 2 r ((gW r r (by omega)).as (v' := .string (hB p)) ((congrArg (fun k => Value.string ((io p nn 0).extract k (io p nn 0).size)) (show Int.toNat 12 = 12 from r)).trans (congrArg Value.string (FK p nn 0))))<|ps 3 r (aj r)<|dv 4 r (by kernel_rfl) (ar r (aC r)) r<|ps 5 r (ej r r (by omega))<|pn 6 r (ai (fA w2 (hA p nn ++ be (gn (io p nn 0)) 2) (hB p ++ p.data) (by rw [ByteArray.size_append, bu]; omega) (by rw [ByteArray.size_append]; omega)) r r r) fun _ _=>dn<|kt<|js ?_
 rw [Ch p (n := nn) (by omega)]
 refine jg<|ea r<|cy (im w2 (iD p)) r fun _=>lv (ap r r) r<|lv (ap r r) r<|eb r<|nk<|jr ?_
 exact cH rfl rfl rfl () trivial rfl Ent.take
end
def wu (n : Nat) : Nat -> List Int -> List Int
 | _, [] => []
 | left, w :: ws => ((n / 2 ^ (left - w.toNat) % 2 ^ w.toNat : Nat) : Int) :: wu n (left - w.toNat) ws
theorem wD {n left k : Nat} {ws : List Int} {v : Int} (hv : ws[k]? = some v) : wu n left (ws.drop k) = ((n / 2 ^ (left - v.toNat) % 2 ^ v.toNat : Nat) : Int) :: wu n (left - v.toNat) (ws.drop (k + 1)) := by
 have h1 : k < ws.length := by
  rcases Nat.lt_or_ge k ws.length with h | h
  ·exact h
  ·rw [List.getElem?_eq_none h] at hv; cases hv
 rw [List.drop_eq_getElem_cons h1]
 rw [List.getElem?_eq_getElem h1] at hv
 simp only [Option.some.injEq] at hv
 rw [hv, wu]
theorem EJ {n j : Nat} (hj : j <= 64) : Value.int .u64 ((n : Int) / 2 ^ (min (Int.toNat (j : Int)) IntKind.u64.bits)) = .int .u64 ((n / 2 ^ j : Nat) : Int) := by
 have e : min (Int.toNat (j : Int)) IntKind.u64.bits = j := by have : IntKind.u64.bits = 64 := rfl; omega
 have h5 : (2 : Int) ^ j = ((2 ^ j : Nat) : Int) := by rw [Int.natCast_pow]; rfl
 rw [e, h5, <- Int.natCast_ediv]
theorem zN {w : Nat} (hw : w <= 32) : Value.int .u64 (IntKind.u64.wrap ((1 : Int) * 2 ^ (min (Int.toNat (w : Int)) IntKind.u64.bits))) = .int .u64 ((2 ^ w : Nat) : Int) := by
 have e : min (Int.toNat (w : Int)) IntKind.u64.bits = w := by have : IntKind.u64.bits = 64 := rfl; omega
 have h2 : 2 ^ w <= 2 ^ 32 := Nat.pow_le_pow_right (by decide) hw
 have h4 : 2 ^ 32 = 4294967296 := by decide
 have h5 : (2 : Int) ^ w = ((2 ^ w : Nat) : Int) := by rw [Int.natCast_pow]; rfl
 rw [h4] at h2
 rw [e, h5, Int.one_mul]
 generalize 2 ^ w = z at h2 ⊢
 rw [Go.IntWalk.u64_in _ (by omega)]
theorem Gh {a w : Nat} (ha : a < 18446744073709551616) (hw : w <= 32) : Value.int .u64 (IntKind.u64.wrap (((BitVec.ofInt IntKind.u64.bits (a : Int) &&& BitVec.ofInt IntKind.u64.bits (((2 ^ w : Nat) : Int) - 1)).toNat : Nat) : Int)) = .int .u64 ((a % 2 ^ w : Nat) : Int) := by
 have h5 : ((2 ^ w : Nat) : Int) = (2 : Int) ^ w := by rw [Int.natCast_pow]; rfl
 have := lL (w := 64) (m := w) (a := (a : Int)) (by omega) ⟨by omega, by show (a : Int) < 18446744073709551616; omega⟩
 have e : ((BitVec.ofInt IntKind.u64.bits (a : Int) &&& BitVec.ofInt IntKind.u64.bits (((2 ^ w : Nat) : Int) - 1)).toNat : Int) = (a : Int) % 2 ^ w := by rw [h5]; exact this
 rw [e, <- h5, <- Int.natCast_emod, Go.IntWalk.u64_in _ (by have := Nat.mod_le a (2 ^ w); omega)]
theorem u7 (p : Nat) (s : ByteArray) (c : Nat) (hc : c <= 4) (hs : c <= s.size) : FSpec prog 77 #[Pt p 0, I (8 * c : Nat)] (qq46 p s) (fun _ : Unit => True) (fun _ => .int .u32 (eC (s.extract 0 c) c : Nat)) (fun _ => am p [.string (s.extract c s.size), I 0] 176) := by
 have := jN p s 0 c hc
 rw [iE s c hs] at this
 rw [bH s 0 c hs] at this
 exact this
theorem yt (p : Nat) (s : ByteArray) (R0 : ab) (A : Option Addr) (c1 : Nat) (ws : List Int) (hR : RdS R0 n3 1 A ws) (hn : ws.length <= 1000000) (hw : ∀ v ∈ ws, -9223372036854775808 <= v /\ v <= 9223372036854775807) (c : Nat) (hc : 1 <= c /\ c <= 4) (hcw : kz ws = ((8 * c : Nat) : Int)) (hcs : fS 0 ws = some ((8 * c : Nat) : Int)) (hs : c <= s.size) : FSpec prog 47 #[Pt p 0, .slice A ws.length c1] ((aa (am p [.string s, I 0] 176) (R0))) (fun r : Option Addr × Nat => True) (fun r => .slice r.1 (wu (eC (s.extract 0 c) c) (8 * c) ws).length r.2) (fun r => (aa (Ow 3 1 (.slice r.1 (wu (eC (s.extract 0 c) c) (8 * c) ws).length r.2) (wu (eC (s.extract 0 c) c) (8 * c) ws).length ((wu (eC (s.extract 0 c) c) (8 * c) ws).flatMap n3)) (aa (am p [.string (s.extract c s.size), I 0] 176) (R0)))) := by
 have hlt := lI (s.extract 0 c) c
 have hp4 : 256 ^ c <= 4294967296 := Nat.le_trans (Nat.pow_le_pow_right (by decide) hc.2) (by decide)
 refine en func47 rfl fun _ F=>fC (aa (Ow 3 1 (Ns) ([] : List Int).length (([] : List Int).flatMap n3)) (aa (am p [.string s, I 0] 176) (aa (R0) (F)))) (Ent.trans (Ent.of (ak _ _ _)) (Ent.trans (Ent.of (bN _).symm) ((Ow.nil 3 1).frame _)))<|aE rfl<|js<|sa rfl<|cy (gR p s 0) rfl fun _=>bJ rfl<|nf rfl<|sk<|sa rfl<|cy (ri R0 A c1 ws hR (by omega) hw) rfl fun _=>?_
 rw [hcw]
 refine an rfl<|js<|sa rfl<|bJ rfl<|nf rfl<|sk<|sb rfl<|cy (u7 p s c hc.2 hs) rfl fun _=>lv (bw rfl (Go.IntWalk.u64_in _ (by omega))) rfl<|an rfl<|js<|sb rfl<|fz rfl<|ld rfl rfl<|bJ rfl<|nf rfl<|sk<|aE rfl<|js<|sa rfl<|ll rfl<|an rfl<|jb ?_
 refine bX (X := Nat × Nat × List Int × (Option Addr × Nat)) (fun y => [(5, I (y.2.1 : Nat)), (6, .int .u64 ((eC (s.extract 0 c) c) : Nat)), (7, .slice y.2.2.2.1 y.2.2.1.length y.2.2.2.2), (29, .slice A ws.length c1), (30, I ws.length), (31, I y.1)]) (fun y => (aa (Ow 3 1 (.slice y.2.2.2.1 y.2.2.1.length y.2.2.2.2) y.2.2.1.length (y.2.2.1.flatMap n3)) (aa (am p [.string (s.extract c s.size), I 0] 176) (aa (R0) (F))))) (fun y => y.1 <= ws.length /\ y.2.2.1 ++ wu (eC (s.extract 0 c) c) y.2.1 (ws.drop y.1) = wu (eC (s.extract 0 c) c) (8 * c) ws /\ fS ((8 * c - y.2.1 : Nat) : Int) (ws.drop y.1) = some ((8 * c : Nat) : Int) /\ y.2.1 <= 8 * c /\ y.2.2.1.length <= y.1) (fun y => ws.length - y.1) ((0, 8 * c, [], (none, 0))) ⟨Nat.zero_le _, rfl, by rw [Nat.sub_self]; exact hcs, Nat.le_refl _, Nat.le_refl _⟩ ⟨rfl, rfl, rfl, rfl, rfl, rfl, trivial⟩ Ent.take (fun y hy => ?_)
 obtain ⟨hk, hy, hsum, hlc, hql⟩ := hy
 refine sr<|lv (aM rfl rfl) rfl<|nj ?_
 refine aG rfl (fun h1 => ?_) (fun h1 => ?_)
 ·have hkl : y.1 < ws.length := by omega
  obtain ⟨v, hv⟩ : ∃ v, ws[y.1]? = some v := ⟨_, List.getElem?_eq_getElem hkl⟩
  obtain ⟨b, o, rfl⟩ := hR.nonnil y.1 hkl
  have hsd := kI (n := ((8 * c - y.2.1 : Nat) : Int)) hv
  have hud := wD (n := (eC (s.extract 0 c) c)) (left := y.2.1) hv
  have hv1 : 1 <= v /\ v <= 32 := by (rw [hsum] at hsd; split at hsd; cases hsd; omega)
  rw [if_neg (by omega), hsum] at hsd
  have htv := lq hsd.symm
  obtain ⟨w, rfl⟩ : ∃ w : Nat, v = w := ⟨v.toNat, by omega⟩
  rw [Int.toNat_natCast] at hud
  have hdl : (eC (s.extract 0 c) c) / 2 ^ (y.2.1 - w) <= (eC (s.extract 0 c) c) := Nat.div_le_self _ _
  have hml : (eC (s.extract 0 c) c) / 2 ^ (y.2.1 - w) % 2 ^ w <= (eC (s.extract 0 c) c) / 2 ^ (y.2.1 - w) := Nat.mod_le _ _
  have h2w : 1 <= 2 ^ w /\ 2 ^ w <= 4294967296 := ⟨Nat.one_le_two_pow, Nat.le_trans (Nat.pow_le_pow_right (by decide) (show w <= 32 by omega)) (by decide)⟩
  refine sk<|js<|jb<|sr<|lv (au rfl rfl (by omega)) rfl<|lv (ar rfl (bU (S := R0) (hR.rd b o rfl y.1 (w : Int) 0 _ hv rfl))) rfl<|an rfl<|sb rfl<|lv ((bm rfl rfl (by omega)).as (v' := I ((y.2.1 - w : Nat) : Int)) (congrArg (Value.int .i64) (by omega))) rfl<|an rfl<|jg<|ec rfl<|lv (bw rfl (Go.IntWalk.u64_in _ (by omega))) rfl<|lv ((eW rfl rfl (by omega)).as (EJ (by omega))) rfl<|ea rfl<|lv (bw rfl (Go.IntWalk.u64_in _ (by omega))) rfl<|lv ((gC rfl rfl (by omega)).as (zN (by omega))) rfl<|lv (xd rfl rfl (Go.IntWalk.u64_in _ (by omega))) rfl<|lv ((fH rfl rfl).as (Gh (by omega) (by omega))) rfl<|lv (bw rfl (Go.IntWalk.i64_in _ (by omega))) rfl<|lx rfl (aq (m := 1) rfl rfl (by omega) (by omega) rfl) fun b49 _=>lx rfl (cO (m := 1) (B := 8) rfl rfl (Src.lit) rfl (by omega) rfl (by simp [Value.oneCell']) (by unfold maxLen; omega) (by omega) rfl) fun y50 _=>ea rfl<|ln<|kb<|kt<|jg<|gE rfl<|ea rfl<|ln ?_
  rw [show y.2.2.1.length + 1 = (y.2.2.1 ++ [(((eC (s.extract 0 c) c) / 2 ^ (y.2.1 - w) % 2 ^ w : Nat) : Int)]).length by simp, show y.2.2.1.flatMap n3 ++ [I (((eC (s.extract 0 c) c) / 2 ^ (y.2.1 - w) % 2 ^ w : Nat) : Int)] = (y.2.2.1 ++ [(((eC (s.extract 0 c) c) / 2 ^ (y.2.1 - w) % 2 ^ w : Nat) : Int)]).flatMap n3 by simp [n3]]
  exact bO ((y.1 + 1, y.2.1 - w, y.2.2.1 ++ [(((eC (s.extract 0 c) c) / 2 ^ (y.2.1 - w) % 2 ^ w : Nat) : Int)], y50)) ⟨by show y.1 + 1 <= _; omega, by rw [<- hy, hud, List.append_assoc]; rfl, by show fS ((8 * c - (y.2.1 - w) : Nat) : Int) _ = _; rw [hsd]; congr 1; omega, by show y.2.1 - w <= _; omega, by show (y.2.2.1 ++ [_]).length <= y.1 + 1; rw [List.length_append]; simp only [List.length_cons, List.length_nil]; omega⟩ (by show _ - (y.1 + 1) < _; omega) ⟨rfl, rfl, rfl, rfl, rfl, rfl, trivial⟩ Ent.take
 ·refine cx ?_
  refine ke<|ke<|kh<|kt<|sb rfl<|nk<|jr ?_
  have he : y.1 = ws.length := by omega
  rw [he, List.drop_length, wu, List.append_nil] at hy
  rw [hy]
  exact aD rfl rfl y.2.2.2 trivial rfl Ent.take
theorem DI (p b : Nat) (s : ByteArray) (hs : 8 <= s.size) : FSpec prog 47 #[Pt p 0, Sk b 0 3 3] (aa (am p [.string (s.extract 6 s.size), I 0] 176) (am b [I 2, I 1, I 13] 3)) (fun _ : Option Addr × Nat => True) (fun r => .slice r.1 3 r.2) (fun r => (aa (Ow 3 1 (.slice r.1 3 r.2) 3 [I ((bE s 6 / 16384 % 4 : Nat) : Int), I ((bE s 6 / 8192 % 2 : Nat) : Int), I ((bE s 6 % 8192 : Nat) : Int)]) (aa (am p [.string (s.extract 8 s.size), I 0] 176) (am b [I 2, I 1, I 13] 3)))) := by
 have h2 : 2 <= (s.extract 6 s.size).size := by rw [bH _ _ _ (Nat.le_refl _)]; omega
 have := yt p (s.extract 6 s.size) (am b [I 2, I 1, I 13] 3) (some (ad b 0)) 3 [2, 1, 13] (RdS.lit (b := b) (cells := [I 2, I 1, I 13]) rfl n2) (by decide) (by decide) 2 (by decide) (by decide) (by decide) h2
 have hN : eC ((s.extract 6 s.size).extract 0 2) 2 = bE s 6 := by rw [oX _ h2, rf (by omega), Nat.add_zero]
 have hu : wu (bE s 6) (8 * 2) [2, 1, 13] = [((bE s 6 / 16384 % 4 : Nat) : Int), ((bE s 6 / 8192 % 2 : Nat) : Int), ((bE s 6 % 8192 : Nat) : Int)] := by
  show [((bE s 6 / 2 ^ 14 % 2 ^ 2 : Nat) : Int), ((bE s 6 / 2 ^ 13 % 2 ^ 1 : Nat) : Int), ((bE s 6 / 2 ^ 0 % 2 ^ 13 : Nat) : Int)] = _
  rw [show bE s 6 / 2 ^ 0 = bE s 6 from Nat.div_one _]
 rw [hN, hu, ns] at this
 exact this
section
variable {s : ByteArray} {P R : ab} {b c : Nat}
def dw (s : ByteArray) : ByteArray := s.extract 0 10 ++ ⟨#[0, 0]⟩ ++ s.extract 12 20
def pV (s : ByteArray) : Pk := ⟨(bE s 4 : Nat), decide (bE s 6 / 8192 % 2 = 1), ((bE s 6 % 8192 : Nat) : Int), (bn s 8 : Nat), (bn s 9 : Nat), (bn s 12 : Nat), (bn s 13 : Nat), (bn s 14 : Nat), (bn s 15 : Nat), (bn s 16 : Nat), (bn s 17 : Nat), (bn s 18 : Nat), (bn s 19 : Nat), s.extract 20 (bE s 2)⟩
def hZ (s : ByteArray) : Pk × Int := if s.size < 20 then (u2, 10) else if bn s 0 ≠ 69 then (u2, 13) else if bn s 1 ≠ 0 \/ bE s 2 < 20 \/ bE s 6 / 16384 % 4 ≠ 0 then (u2, 15) else if bE s 10 ≠ gn (dw s) then (u2, 12) else if s.size < bE s 2 then (u2, 10) else (pV s, 0)
theorem mL (h : 20 <= s.size) : (dw s).size = 20 := by
 unfold dw
 rw [ByteArray.size_append, ByteArray.size_append, bH _ _ _ (by omega), bH _ _ _ (by omega)]
 rfl
theorem oO (h : 20 <= s.size) (i : Nat) (hi : i < 20) : bn (dw s) i = if i = 10 \/ i = 11 then 0 else bn s i := by
 have h1 : (s.extract 0 10).size = 10 := bH _ _ _ (by omega)
 have h0 : (⟨#[0, 0]⟩ : ByteArray).size = 2 := rfl
 have h2 : (s.extract 0 10 ++ ⟨#[0, 0]⟩).size = 12 := by rw [ByteArray.size_append, h1, h0]
 unfold dw
 by_cases a : i < 10
 ·rw [fc (by omega), fc (by omega), cI (by omega) (by omega), if_neg (by omega), Nat.zero_add]
 ·by_cases c : i < 12
  ·rw [fc (by omega), gK (by omega), h1, if_pos (by omega)]
   rcases (show i = 10 \/ i = 11 by omega) with rfl | rfl <;> rfl
  ·rw [gK (by omega), h2, cI (by omega) (by omega), if_neg (by omega), show 12 + (i - 12) = i by omega]
theorem wz {X Z : ByteArray} (hz : ∀ i, i < 20 -> bn Z i = if i = 10 \/ i = 11 then 0 else bn X i) : eP X 20 = eP Z 20 + (bn X 10 * 256 + bn X 11) := by
 have h10 : eP X 10 = eP Z 10 := nx 10 (fun i hi => by rw [hz i (by omega), if_neg (by omega)])
 have h12 : eP X 12 = eP Z 12 + (bn X 10 * 256 + bn X 11) := by
  show eP X 10 + bn X 10 * 256 + bn X 11 * 1 = eP Z 10 + bn Z 10 * 256 + bn Z 11 * 1 + _
  rw [hz 10 (by decide), hz 11 (by decide), if_pos (by decide), if_pos (by decide), h10]
  omega
 have hk : ∀ j, j <= 8 -> eP X (12 + j) = eP Z (12 + j) + (bn X 10 * 256 + bn X 11) := by
  intro j
  induction j with
  | zero => intro _; exact h12
  | succ j ih =>
   intro hj
   have := ih (by omega)
   have hb : bn Z (12 + j) = bn X (12 + j) := by rw [hz (12 + j) (by omega), if_neg (by omega)]
   rw [<- Nat.add_assoc, eP, eP, this, hb]
   omega
 exact hk 8 (Nat.le_refl _)
theorem uv (s : ByteArray) : gn s = 65535 - fold (eP s s.size) := by unfold gn; rfl
theorem rn (h : 20 <= s.size) (h69 : bn s 0 = 69) (hw : bE s 10 = gn (dw s)) : gn (s.extract 0 20) = 0 := by
 have hz := mL h
 have hx : (s.extract 0 20).size = 20 := bH _ _ _ h
 have hs := wz (X := s.extract 0 20) (Z := dw s) (fun i hi => by rw [oO h i hi, cI (by omega) h, Nat.zero_add])
 rw [cI (by omega) h, cI (by omega) h, Nat.zero_add, Nat.zero_add] at hs
 have hwd : bE s 10 = bn s 10 * 256 + bn s 11 := by unfold bE; rfl
 have hpos : 0 < eP (dw s) 20 := by
  have h1 : eP (dw s) 1 <= eP (dw s) 20 := oP (by decide)
  have h2 : eP (dw s) 1 = 0 + bn (dw s) 0 * 256 := rfl
  rw [oO h 0 (by decide), if_neg (by decide), h69] at h2
  omega
 rw [uv, hz] at hw
 rw [uv, hx, hs]
 have f1 := uC (eP (dw s) 20)
 have f2 := sf (eP (dw s) 20)
 have f3 := sd _ hpos
 have g1 := uC (eP (dw s) 20 + (bn s 10 * 256 + bn s 11))
 have g2 := sf (eP (dw s) 20 + (bn s 10 * 256 + bn s 11))
 have g3 := sd (eP (dw s) 20 + (bn s 10 * 256 + bn s 11)) (by omega)
 omega
theorem qK (p o : Nat) (s : ByteArray) (h : o + 1 <= s.size) : FSpec Tryz.prog 46 #[Pt p 0] (am p [.string (s.extract o s.size), I 0] 176) (fun _ : Unit => True) (fun _ => I (bn s o : Nat)) (fun _ => am p [.string (s.extract (o + 1) s.size), I 0] 176) := by
 have h1 : 1 <= (s.extract o s.size).size := by rw [bH _ _ _ (Nat.le_refl _)]; omega
 have := sJ p (s.extract o s.size) 0
 have e := iE (s.extract o s.size) 1 h1
 have hn : eC ((s.extract o s.size).extract 0 1) 1 = bn s o := by
  show 0 * 256 + bn ((s.extract o s.size).extract 0 1) 0 = _
  rw [cI (by omega) h1, cI (by omega) (Nat.le_refl _)]
  simp
 have hz := bH (s.extract o s.size) 0 1 h1
 rw [rT h1, e] at this
 rw [hz, hn, ns] at this
 exact this
theorem yp (p : Nat) (s : ByteArray) (h : 1 <= s.size) : FSpec Tryz.prog 46 #[Pt p 0] (am p [.string s, I 0] 176) (fun _ : Unit => True) (fun _ => I (bn s 0 : Nat)) (fun _ => am p [.string (s.extract 1 s.size), I 0] 176) := by
 have := qK p 0 s (by omega)
 rwa [ByteArray.extract_zero_size] at this
theorem l8 (p o k : Nat) (s : ByteArray) (h : o + k <= s.size) : FSpec Tryz.prog 44 #[Pt p 0, I (k : Nat)] (am p [.string (s.extract o s.size), I 0] 176) (fun _ : Unit => True) (fun _ => .string (s.extract o (o + k))) (fun _ => am p [.string (s.extract (o + k) s.size), I 0] 176) := by
 have := oq p (s.extract o s.size) k (by rw [bH _ _ _ (Nat.le_refl _)]; omega)
 have e : (s.extract o s.size).extract 0 k = s.extract o (o + k) := by
  rw [ByteArray.extract_extract]
  congr 1
  omega
 rw [e, ns] at this
 exact this
theorem IT {e : Nat} {T : ByteArray} [Take P (byb b T c e) R] (h : T.size = 4) : ∀ (j : Nat) (u : Value), [U8 (bn T 0 : Nat), U8 (bn T 1 : Nat), U8 (bn T 2 : Nat), U8 (bn T 3 : Nat)][j]? = some u -> Rd P b (0 + j) u := fun j u hj => by
 have hj4 : j < 4 := by
  rcases Nat.lt_or_ge j 4 with h | h
  ·exact h
  ·rw [List.getElem?_eq_none (by simpa using h)] at hj; cases hj
 have := Rd.byb (P := P) (b := b) (c := c) (s := T) (e := e) (j := j) (by omega)
 rw [Nat.zero_add]
 rcases (show j = 0 \/ j = 1 \/ j = 2 \/ j = 3 by omega) with rfl | rfl | rfl | rfl <;> (cases hj; exact this)
theorem cG {prog : Program} {σ : World} {n : Nat} {E : Env} {d : Option Nat} {ty t : TypeId} {pos : String} {aft : Array Edge} {g : Option (Nat × Bool)} {x : Operand} (i j k l : Nat) [Agg prog t 4] [Take P (byb b (s.extract i (i + 4)) c 5) R] (hx : ev E x = some (Pt b 0)) (he : (i + 1, i + 2, i + 3) = (j, k, l)) (h : i + 4 <= s.size := by omega) :
  OpV prog σ n E P ⟨d, .load t x, ty, pos, aft, g⟩ (.agg [U8 (bn s i : Nat), U8 (bn s j : Nat), U8 (bn s k : Nat), U8 (bn s l : Nat)].toArray) := by
 simp only [Prod.mk.injEq] at he
 obtain ⟨rfl, rfl, rfl⟩ := he
 exact ((br (prog := prog) (t := t) (m := 4) (vs := [U8 (bn (s.extract i (i + 4)) 0 : Nat), U8 (bn (s.extract i (i + 4)) 1 : Nat), U8 (bn (s.extract i (i + 4)) 2 : Nat), U8 (bn (s.extract i (i + 4)) 3 : Nat)]) hx rfl (IT (P := P) (R := R) (c := c) (e := 5) (T := (s.extract i (i + 4))) (by rw [bH _ _ _ (by omega)]; omega))).as (v' := .agg [U8 (bn s i : Nat), U8 (bn s (i + 1) : Nat), U8 (bn s (i + 2) : Nat), U8 (bn s (i + 3) : Nat)].toArray) (by rw [cI (by omega) (by omega), cI (by omega) (by omega), cI (by omega) (by omega), cI (by omega) (by omega)] <;> rfl))
theorem wA (s : ByteArray) (i : Nat) : bE s i = bn s i * 256 + bn s (i + 1) := by unfold bE; rfl
attribute [local irreducible] be gn bE dw
theorem sW (s : ByteArray) (h : 20 <= s.size) (hs : s.size <= 1000000) : FSpec Tryz.prog 48 #[.string s] (emp) (fun _ : Unit => True) (fun _ => .bool (decide (bE s 10 ≠ gn (dw s)))) (fun _ => emp) := by
 have hz := mL h
 have hz0 : (⟨#[0, 0]⟩ : ByteArray).size = 2 := rfl
 refine en Tryz.func48 r fun _ F=>bG<|aE r<|sa r<|lv ((gW r r (by omega)).as (congrArg (fun k => Value.string (s.extract k s.size)) (show Int.toNat 10 = 10 from r))) r<|cy (iU (s.extract 10 s.size)) r fun p=>cy (jw p 10 s (by omega)) r fun _=>an r<|js<|dM ae<|qb r<|qv ((dW r r (by omega)).as (congrArg (fun k => Value.string (s.extract 0 k)) (show Int.toNat 10 = 10 from r))) r<|qv (ej r r (by rw [bH _ _ _ (by omega), hz0]; decide)) r<|qa r<|qv ((kO r r r (by omega)).as (v' := .string (s.extract 12 20)) (by rw [show Int.toNat 12 = 12 from rfl, show Int.toNat 20 = 20 from rfl])) r<|qv ((ej r r (by rw [ByteArray.size_append, bH _ _ _ (by omega), bH _ _ _ (by omega), hz0]; decide)).as (v' := .string (dw s)) (by unfold dw; rfl)) r<|dy (kp (dw s) (by omega)) r r (fun _ _ => r) (fun _ _ => ah _) r<|qv ((bs r r).as (v' := .bool (decide (bE s 10 ≠ gn (dw s)))) (congrArg Value.bool (decide_eq_decide.2 (by omega)))) r<|qa r<|qn<|kt<|jr ?_
 exact aD rfl rfl () trivial (rfl) Ent.take
set_option maxHeartbeats 1000000 in
theorem oz (s : ByteArray) (hs : s.size <= 1000000) : FSpec Tryz.prog 14 #[.string s] (emp) (fun _ : Unit => True) (fun _ => .tuple #[.agg (ef (hZ s).1).toArray, I (hZ s).2]) (fun _ => emp) := by
 have hb0 := lX s 0
 have hb1 := lX s 1
 have hw2 := uk s 2
 have hw6 := uk s 6
 refine en Tryz.func14 r fun _ F=>bG<|sr<|al r fun b2=>an r<|js<|sa r<|lv (aX r) r<|lv (aM r r) r<|nk ?_
 refine aG rfl (fun h1 => ?_) (fun h1 => ?_)
 ·refine sr<|lv (af r) r ?_
  refine so r r<|an r<|jr<|kd ?_
  have e : hZ s = (u2, 10) := by unfold hZ; rw [if_pos (by omega)]
  exact cw rfl rfl rfl rfl () trivial (by rw [e]; rfl) Ent.take
 ·refine sk<|sa r<|cy (iU s) r fun p=>an r<|sa r<|cy (yp p s (by omega)) r fun _=>ea r<|cy (qK p 1 s (by omega)) r fun _=>ea r<|cy (jw p 2 s (by omega)) r fun _=>ec r<|nr<|ea r<|cy (jw p 4 s (by omega)) r fun _=>lv (af r) r<|al r fun b8=>?_
  refine so r r<|nr<|ea r<|cy kN r fun b26=>cy (DI p b26 s (by omega)) r fun rl=>an r<|js<|js ?_
  obtain ⟨Al, cl⟩ := rl
  refine yP (fun w hs => i4 (Sat.ent hs (dH (Q := Ow 3 1 (.slice Al 3 cl) 3 [I ((bE s 6 / 16384 % 4 : Nat) : Int), I ((bE s 6 / 8192 % 2 : Nat) : Int), I ((bE s 6 % 8192 : Nat) : Int)])))) fun hA => ?_
  obtain ⟨bl, ol, rfl⟩ : ∃ b o, Al = some (ad b o) := by rcases hA with ⟨_, _, h, _⟩ | h; cases h; exact h
  refine jg<|ea r<|lv (bs r r) r<|nk ?_
  refine aG rfl (fun h2 => ?_) (fun h2 => ?_)
  ·refine sr<|lv (af r) r ?_
   refine so r r<|an r<|jr<|kd ?_
   have e : hZ s = (u2, 13) := by unfold hZ; rw [if_neg (by omega), if_pos (by omega)]
   exact cw rfl rfl rfl rfl () trivial (by rw [e]; rfl) Ent.take
  ·refine sk<|js<|sa r<|lv (bs r r) r<|ea r ?_
   refine il rfl rfl (fun h3 => ?_) (fun h3 => ?_) (fun _ h => by cases h; rfl)
   ·refine ea r<|bR h3 r r<|lv (aM r r) r<|lv (bo r h3 r) r<|ea r ?_
    refine il rfl rfl (fun h4 => ?_) (fun h4 => ?_) (fun _ h => by cases h; rfl)
    ·refine ea r<|bR h4 r r<|ll r<|bR h4 r r<|cy kN r fun b40=>bR h4 r r<|ll r<|bR h4 r r<|bJ r<|lv (bo r h4 r) r<|ea r<|go r<|ea r<|go r<|lv (au r r (by omega)) r<|go r ?_
     refine lv (ar r (bU (S := Ow 3 1 (Sk bl ol 3 cl) 3 [I ((bE s 6 / 16384 % 4 : Nat) : Int), I ((bE s 6 / 8192 % 2 : Nat) : Int), I ((bE s 6 % 8192 : Nat) : Int)]) (Rd.own (j := 0) r))) r<|go r<|lv (bs r r) r<|an r ?_
     refine aG rfl (fun h5 => ?_) (fun h5 => ?_)
     ·refine sr<|lv (af r) r ?_
      refine so r r<|an r<|jr<|kd ?_
      have e : hZ s = (u2, 15) := by unfold hZ; rw [if_neg (by omega), if_neg (by omega), if_pos (by omega)]
      exact cw rfl rfl rfl rfl () trivial (by rw [e]; rfl) Ent.take
     ·refine sk<|js<|av (Ow 3 1 (Sk bl ol 3 cl) 3 [I ((bE s 6 / 16384 % 4 : Nat) : Int), I ((bE s 6 / 8192 % 2 : Nat) : Int), I ((bE s 6 % 8192 : Nat) : Int)]) (Ow 3 1 (Sk bl ol 3 cl) 3 [I ((bE s 6 / 16384 % 4 : Nat) : Int), I ((bE s 6 / 8192 % 2 : Nat) : Int), I ((bE s 6 % 8192 : Nat) : Int)]) [] ae<|pe 0 r r<|ps 1 r (au r r (by omega))<|dv 2 r (by kernel_rfl) (ar r (bU (S := Ow 3 1 (Sk bl ol 3 cl) 3 [I ((bE s 6 / 16384 % 4 : Nat) : Int), I ((bE s 6 / 8192 % 2 : Nat) : Int), I ((bE s 6 % 8192 : Nat) : Int)]) (Rd.own (j := 1) r))) r<|ps 3 r ((cv r r).as (v' := .bool (decide (bE s 6 / 8192 % 2 = 1))) (congrArg Value.bool (decide_eq_decide.2 (by omega))))<|pe 4 r r<|ps 5 r (au r r (by omega))<|dv 6 r (by kernel_rfl) (ar r (bU (S := Ow 3 1 (Sk bl ol 3 cl) 3 [I ((bE s 6 / 16384 % 4 : Nat) : Int), I ((bE s 6 / 8192 % 2 : Nat) : Int), I ((bE s 6 % 8192 : Nat) : Int)]) (Rd.own (j := 2) r))) r<|ps 7 r (aj r) ?_
      refine pn 8 r (dU r r r) fun _ _=>ps 9 r (aj r)<|pn 10 r (dU r r r) fun _ _=>dn<|kt<|sa r<|cy (qK p 8 s (by omega)) r fun _=>ea r<|cy (qK p 9 s (by omega)) r fun _=>fz r<|so r r<|fz r<|so r r<|nj<|sa r<|lv ((dW r r (by omega)).as (congrArg (fun k => Value.string (s.extract 0 k)) (show Int.toNat 20 = 20 from r))) r<|cy (kp (s.extract 0 20) (by rw [bH _ _ _ (by omega)]; decide)) r fun _=>cj<|lv ((bs r r).as (v' := .bool (decide (gn (s.extract 0 20) ≠ 0))) (congrArg Value.bool (decide_eq_decide.2 (by omega)))) r<|ea r ?_
      refine il rfl rfl (fun h6 => ?_) (fun h6 => ?_) (fun _ h => by cases h; rfl)
      ·refine ea r<|bR h6 r r<|cy (sW s (by omega) hs) r fun _=>cj<|lv (bo r h6 r) r<|nk ?_
       refine aG rfl (fun h7 => ?_) (fun h7 => ?_)
       ·refine sr<|lv (af r) r ?_
        refine so r r<|an r<|jr<|kd ?_
        have e : hZ s = (u2, 12) := by unfold hZ; rw [if_neg (by omega), if_neg (by omega), if_neg (by omega), if_pos (by assumption)]
        exact cw rfl rfl rfl rfl () trivial (by rw [e]; rfl) Ent.take
       ·refine sk<|sa r<|cy (jw p 10 s (by omega)) r fun _=>nk ?_
        refine gO (X := Unit) (fun _ => [(0, .string s), (2, Pt b2 0), (7, I (bE s 2 : Nat)), (8, Pt b8 0)]) (fun _ => (aa (am b8 [I (bE s 4 : Nat), .bool (decide (bE s 6 / 8192 % 2 = 1)), I ((bE s 6 % 8192 : Nat) : Int), I (bn s 8 : Nat), I (bn s 9 : Nat), U8 (bn s 12 : Nat), U8 (bn s 13 : Nat), U8 (bn s 14 : Nat), U8 (bn s 15 : Nat), U8 (bn s 16 : Nat), U8 (bn s 17 : Nat), U8 (bn s 18 : Nat), U8 (bn s 19 : Nat), .string ⟨#[]⟩] 39) (aa (am b2 [I 0, Ff, I 0, I 0, I 0, U8 0, U8 0, U8 0, U8 0, U8 0, U8 0, U8 0, U8 0, .string ⟨#[]⟩] 39) (F)))) (fun _ => True) ?_ (fun _ _ => ?_)
        ·refine av (emp) (emp) [] ae<|pe 0 r r<|pe 5 r r<|pn 1 r (ai (l8 p 12 4 s (by omega)) r r r) fun _ _=>?_
         refine fk [2, 6] (by kernel_rfl) rfl fun i hi => ?_
         simp only [List.mem_cons, List.not_mem_nil, or_false] at hi
         rcases hi with rfl | rfl
         ·refine bT rfl rfl (dV rfl rfl) fun y79 _ => ?_
          refine ps 3 r (eE r (by rw [bH _ _ _ (by omega)]; decide))<|fk [4, 6] (by kernel_rfl) rfl fun i hi => ?_
          simp only [List.mem_cons, List.not_mem_nil, or_false] at hi
          rcases hi with rfl | rfl
          ·refine bT rfl rfl ((cG 12 13 14 15 (s := s) (c := y79.2) rfl rfl).opx rfl rfl) fun _ _ => ?_
           refine ps 10 r (aj r)<|pn 6 r (ai (l8 p 16 4 s (by omega)) r r r) fun _ _=>fk [7, 11] (by kernel_rfl) rfl fun i hi => ?_
           simp only [List.mem_cons, List.not_mem_nil, or_false] at hi
           rcases hi with rfl | rfl
           ·refine bT rfl rfl (dV rfl rfl) fun y84 _ => ?_
            refine ps 8 r (eE r (by rw [bH _ _ _ (by omega)]; decide))<|fk [9, 11] (by kernel_rfl) rfl fun i hi => ?_
            simp only [List.mem_cons, List.not_mem_nil, or_false] at hi
            rcases hi with rfl | rfl
            ·refine bT rfl rfl ((cG 16 17 18 19 (s := s) (c := y84.2) rfl rfl).opx rfl rfl) fun _ _ => ?_
             refine pn 11 r (dU r r r) fun _ _=>ps 12 r (aj r)<|pn 13 r (dU r r r) fun _ _=>dn ?_
             exact eM () trivial ⟨rfl, rfl, rfl, rfl, trivial⟩ Ent.take
            ·refine bT rfl rfl (dU rfl rfl rfl) fun _ _ => ?_
             refine pn 9 r ((cG 16 17 18 19 (s := s) (c := y84.2) rfl rfl).opx r r) fun _ _=>ps 12 r (aj r)<|pn 13 r (dU r r r) fun _ _=>dn ?_
             exact eM () trivial ⟨rfl, rfl, rfl, rfl, trivial⟩ Ent.take
           ·refine bT rfl rfl (dU rfl rfl rfl) fun _ _ => ?_
            refine pn 7 r (dV r r) fun y84 _=>ps 8 r (eE r (by rw [bH _ _ _ (by omega)]; decide))<|pn 9 r ((cG 16 17 18 19 (s := s) (c := y84.2) rfl rfl).opx r r) fun _ _=>ps 12 r (aj r)<|pn 13 r (dU r r r) fun _ _=>dn ?_
            exact eM () trivial ⟨rfl, rfl, rfl, rfl, trivial⟩ Ent.take
          ·refine bT rfl rfl (ai (l8 p 16 4 s (by omega)) rfl rfl rfl) fun _ _ => ?_
           refine fk [4, 7] (by kernel_rfl) rfl fun i hi => ?_
           simp only [List.mem_cons, List.not_mem_nil, or_false] at hi
           rcases hi with rfl | rfl
           ·refine bT rfl rfl ((cG 12 13 14 15 (s := s) (c := y79.2) rfl rfl).opx rfl rfl) fun _ _ => ?_
            refine ps 10 r (aj r)<|fk [7, 11] (by kernel_rfl) rfl fun i hi => ?_
            simp only [List.mem_cons, List.not_mem_nil, or_false] at hi
            rcases hi with rfl | rfl
            ·refine bT rfl rfl (dV rfl rfl) fun y84 _ => ?_
             refine ps 8 r (eE r (by rw [bH _ _ _ (by omega)]; decide))<|fk [9, 11] (by kernel_rfl) rfl fun i hi => ?_
             simp only [List.mem_cons, List.not_mem_nil, or_false] at hi
             rcases hi with rfl | rfl
             ·refine bT rfl rfl ((cG 16 17 18 19 (s := s) (c := y84.2) rfl rfl).opx rfl rfl) fun _ _ => ?_
              refine pn 11 r (dU r r r) fun _ _=>ps 12 r (aj r)<|pn 13 r (dU r r r) fun _ _=>dn ?_
              exact eM () trivial ⟨rfl, rfl, rfl, rfl, trivial⟩ Ent.take
             ·refine bT rfl rfl (dU rfl rfl rfl) fun _ _ => ?_
              refine pn 9 r ((cG 16 17 18 19 (s := s) (c := y84.2) rfl rfl).opx r r) fun _ _=>ps 12 r (aj r)<|pn 13 r (dU r r r) fun _ _=>dn ?_
              exact eM () trivial ⟨rfl, rfl, rfl, rfl, trivial⟩ Ent.take
            ·refine bT rfl rfl (dU rfl rfl rfl) fun _ _ => ?_
             refine pn 7 r (dV r r) fun y84 _=>ps 8 r (eE r (by rw [bH _ _ _ (by omega)]; decide))<|pn 9 r ((cG 16 17 18 19 (s := s) (c := y84.2) rfl rfl).opx r r) fun _ _=>ps 12 r (aj r)<|pn 13 r (dU r r r) fun _ _=>dn ?_
             exact eM () trivial ⟨rfl, rfl, rfl, rfl, trivial⟩ Ent.take
           ·refine bT rfl rfl (dV rfl rfl) fun y84 _ => ?_
            refine ps 8 r (eE r (by rw [bH _ _ _ (by omega)]; decide))<|fk [4, 9] (by kernel_rfl) rfl fun i hi => ?_
            simp only [List.mem_cons, List.not_mem_nil, or_false] at hi
            rcases hi with rfl | rfl
            ·refine bT rfl rfl ((cG 12 13 14 15 (s := s) (c := y79.2) rfl rfl).opx rfl rfl) fun _ _ => ?_
             refine ps 10 r (aj r)<|fk [9, 11] (by kernel_rfl) rfl fun i hi => ?_
             simp only [List.mem_cons, List.not_mem_nil, or_false] at hi
             rcases hi with rfl | rfl
             ·refine bT rfl rfl ((cG 16 17 18 19 (s := s) (c := y84.2) rfl rfl).opx rfl rfl) fun _ _ => ?_
              refine pn 11 r (dU r r r) fun _ _=>ps 12 r (aj r)<|pn 13 r (dU r r r) fun _ _=>dn ?_
              exact eM () trivial ⟨rfl, rfl, rfl, rfl, trivial⟩ Ent.take
             ·refine bT rfl rfl (dU rfl rfl rfl) fun _ _ => ?_
              refine pn 9 r ((cG 16 17 18 19 (s := s) (c := y84.2) rfl rfl).opx r r) fun _ _=>ps 12 r (aj r)<|pn 13 r (dU r r r) fun _ _=>dn ?_
              exact eM () trivial ⟨rfl, rfl, rfl, rfl, trivial⟩ Ent.take
            ·refine bT rfl rfl ((cG 16 17 18 19 (s := s) (c := y84.2) rfl rfl).opx rfl rfl) fun _ _ => ?_
             refine pn 4 r ((cG 12 13 14 15 (s := s) (c := y79.2) rfl rfl).opx r r) fun _ _=>ps 10 r (aj r)<|pn 11 r (dU r r r) fun _ _=>ps 12 r (aj r)<|pn 13 r (dU r r r) fun _ _=>dn ?_
             exact eM () trivial ⟨rfl, rfl, rfl, rfl, trivial⟩ Ent.take
         ·refine bT rfl rfl (ai (l8 p 16 4 s (by omega)) rfl rfl rfl) fun _ _ => ?_
          refine fk [2, 7] (by kernel_rfl) rfl fun i hi => ?_
          simp only [List.mem_cons, List.not_mem_nil, or_false] at hi
          rcases hi with rfl | rfl
          ·refine bT rfl rfl (dV rfl rfl) fun y79 _ => ?_
           refine ps 3 r (eE r (by rw [bH _ _ _ (by omega)]; decide))<|fk [4, 7] (by kernel_rfl) rfl fun i hi => ?_
           simp only [List.mem_cons, List.not_mem_nil, or_false] at hi
           rcases hi with rfl | rfl
           ·refine bT rfl rfl ((cG 12 13 14 15 (s := s) (c := y79.2) rfl rfl).opx rfl rfl) fun _ _ => ?_
            refine ps 10 r (aj r)<|fk [7, 11] (by kernel_rfl) rfl fun i hi => ?_
            simp only [List.mem_cons, List.not_mem_nil, or_false] at hi
            rcases hi with rfl | rfl
            ·refine bT rfl rfl (dV rfl rfl) fun y84 _ => ?_
             refine ps 8 r (eE r (by rw [bH _ _ _ (by omega)]; decide))<|fk [9, 11] (by kernel_rfl) rfl fun i hi => ?_
             simp only [List.mem_cons, List.not_mem_nil, or_false] at hi
             rcases hi with rfl | rfl
             ·refine bT rfl rfl ((cG 16 17 18 19 (s := s) (c := y84.2) rfl rfl).opx rfl rfl) fun _ _ => ?_
              refine pn 11 r (dU r r r) fun _ _=>ps 12 r (aj r)<|pn 13 r (dU r r r) fun _ _=>dn ?_
              exact eM () trivial ⟨rfl, rfl, rfl, rfl, trivial⟩ Ent.take
             ·refine bT rfl rfl (dU rfl rfl rfl) fun _ _ => ?_
              refine pn 9 r ((cG 16 17 18 19 (s := s) (c := y84.2) rfl rfl).opx r r) fun _ _=>ps 12 r (aj r)<|pn 13 r (dU r r r) fun _ _=>dn ?_
              exact eM () trivial ⟨rfl, rfl, rfl, rfl, trivial⟩ Ent.take
            ·refine bT rfl rfl (dU rfl rfl rfl) fun _ _ => ?_
             refine pn 7 r (dV r r) fun y84 _=>ps 8 r (eE r (by rw [bH _ _ _ (by omega)]; decide))<|pn 9 r ((cG 16 17 18 19 (s := s) (c := y84.2) rfl rfl).opx r r) fun _ _=>ps 12 r (aj r)<|pn 13 r (dU r r r) fun _ _=>dn ?_
             exact eM () trivial ⟨rfl, rfl, rfl, rfl, trivial⟩ Ent.take
           ·refine bT rfl rfl (dV rfl rfl) fun y84 _ => ?_
            refine ps 8 r (eE r (by rw [bH _ _ _ (by omega)]; decide))<|fk [4, 9] (by kernel_rfl) rfl fun i hi => ?_
            simp only [List.mem_cons, List.not_mem_nil, or_false] at hi
            rcases hi with rfl | rfl
            ·refine bT rfl rfl ((cG 12 13 14 15 (s := s) (c := y79.2) rfl rfl).opx rfl rfl) fun _ _ => ?_
             refine ps 10 r (aj r)<|fk [9, 11] (by kernel_rfl) rfl fun i hi => ?_
             simp only [List.mem_cons, List.not_mem_nil, or_false] at hi
             rcases hi with rfl | rfl
             ·refine bT rfl rfl ((cG 16 17 18 19 (s := s) (c := y84.2) rfl rfl).opx rfl rfl) fun _ _ => ?_
              refine pn 11 r (dU r r r) fun _ _=>ps 12 r (aj r)<|pn 13 r (dU r r r) fun _ _=>dn ?_
              exact eM () trivial ⟨rfl, rfl, rfl, rfl, trivial⟩ Ent.take
             ·refine bT rfl rfl (dU rfl rfl rfl) fun _ _ => ?_
              refine pn 9 r ((cG 16 17 18 19 (s := s) (c := y84.2) rfl rfl).opx r r) fun _ _=>ps 12 r (aj r)<|pn 13 r (dU r r r) fun _ _=>dn ?_
              exact eM () trivial ⟨rfl, rfl, rfl, rfl, trivial⟩ Ent.take
            ·refine bT rfl rfl ((cG 16 17 18 19 (s := s) (c := y84.2) rfl rfl).opx rfl rfl) fun _ _ => ?_
             refine pn 4 r ((cG 12 13 14 15 (s := s) (c := y79.2) rfl rfl).opx r r) fun _ _=>ps 10 r (aj r)<|pn 11 r (dU r r r) fun _ _=>ps 12 r (aj r)<|pn 13 r (dU r r r) fun _ _=>dn ?_
             exact eM () trivial ⟨rfl, rfl, rfl, rfl, trivial⟩ Ent.take
          ·refine bT rfl rfl (dV rfl rfl) fun y84 _ => ?_
           refine ps 8 r (eE r (by rw [bH _ _ _ (by omega)]; decide))<|fk [2, 9] (by kernel_rfl) rfl fun i hi => ?_
           simp only [List.mem_cons, List.not_mem_nil, or_false] at hi
           rcases hi with rfl | rfl
           ·refine bT rfl rfl (dV rfl rfl) fun y79 _ => ?_
            refine ps 3 r (eE r (by rw [bH _ _ _ (by omega)]; decide))<|fk [4, 9] (by kernel_rfl) rfl fun i hi => ?_
            simp only [List.mem_cons, List.not_mem_nil, or_false] at hi
            rcases hi with rfl | rfl
            ·refine bT rfl rfl ((cG 12 13 14 15 (s := s) (c := y79.2) rfl rfl).opx rfl rfl) fun _ _ => ?_
             refine ps 10 r (aj r)<|fk [9, 11] (by kernel_rfl) rfl fun i hi => ?_
             simp only [List.mem_cons, List.not_mem_nil, or_false] at hi
             rcases hi with rfl | rfl
             ·refine bT rfl rfl ((cG 16 17 18 19 (s := s) (c := y84.2) rfl rfl).opx rfl rfl) fun _ _ => ?_
              refine pn 11 r (dU r r r) fun _ _=>ps 12 r (aj r)<|pn 13 r (dU r r r) fun _ _=>dn ?_
              exact eM () trivial ⟨rfl, rfl, rfl, rfl, trivial⟩ Ent.take
             ·refine bT rfl rfl (dU rfl rfl rfl) fun _ _ => ?_
              refine pn 9 r ((cG 16 17 18 19 (s := s) (c := y84.2) rfl rfl).opx r r) fun _ _=>ps 12 r (aj r)<|pn 13 r (dU r r r) fun _ _=>dn ?_
              exact eM () trivial ⟨rfl, rfl, rfl, rfl, trivial⟩ Ent.take
            ·refine bT rfl rfl ((cG 16 17 18 19 (s := s) (c := y84.2) rfl rfl).opx rfl rfl) fun _ _ => ?_
             refine pn 4 r ((cG 12 13 14 15 (s := s) (c := y79.2) rfl rfl).opx r r) fun _ _=>ps 10 r (aj r)<|pn 11 r (dU r r r) fun _ _=>ps 12 r (aj r)<|pn 13 r (dU r r r) fun _ _=>dn ?_
             exact eM () trivial ⟨rfl, rfl, rfl, rfl, trivial⟩ Ent.take
           ·refine bT rfl rfl ((cG 16 17 18 19 (s := s) (c := y84.2) rfl rfl).opx rfl rfl) fun _ _ => ?_
            refine pn 2 r (dV r r) fun y79 _=>ps 3 r (eE r (by rw [bH _ _ _ (by omega)]; decide))<|pn 4 r ((cG 12 13 14 15 (s := s) (c := y79.2) rfl rfl).opx r r) fun _ _=>ps 10 r (aj r)<|pn 11 r (dU r r r) fun _ _=>ps 12 r (aj r)<|pn 13 r (dU r r r) fun _ _=>dn ?_
            exact eM () trivial ⟨rfl, rfl, rfl, rfl, trivial⟩ Ent.take
        ·refine js<|sb r<|lv (aX r) r<|lv (bt r r) r<|nk ?_
         refine aG rfl (fun h8 => ?_) (fun h8 => ?_)
         ·refine sr<|lv (af r) r ?_
          refine so r r<|an r<|jr<|kd ?_
          have e : hZ s = (u2, 10) := by unfold hZ; rw [if_neg (by omega), if_neg (by omega), if_neg (by omega), if_neg (by assumption), if_pos (by omega)]
          exact cw rfl rfl rfl rfl () trivial (by rw [e]; rfl) Ent.take
         ·refine sk<|sb r<|lv ((kO r r r (by omega)).as (v' := .string (s.extract 20 (bE s 2))) (by rw [show Int.toNat 20 = 20 from rfl, Int.toNat_natCast])) r<|fz r ?_
          refine so r r<|nr<|ls r<|so r r<|an r<|jr ?_
          have e : hZ s = (pV s, 0) := by unfold hZ; rw [if_neg (by omega), if_neg (by omega), if_neg (by omega), if_neg (by assumption), if_neg (by omega)]
          exact cw rfl rfl rfl rfl () trivial (by rw [e]; rfl) Ent.take
      ·refine jf h6 rfl ?_
       refine lv (bi r h6 r) r<|nt r<|sr<|lv (af r) r<|so r r<|an r<|jr<|kd ?_
       have e : hZ s = (u2, 12) := by unfold hZ; rw [if_neg (by omega), if_neg (by omega), if_neg (by omega), if_pos (by exact fun e => absurd (rn (by omega) (by omega) e) (by assumption))]
       exact cw rfl rfl rfl rfl () trivial (by rw [e]; rfl) Ent.take
    ·refine jf h4 rfl ?_
     refine jf h4 rfl<|jf h4 rfl<|jf h4 rfl<|lv (bi r h4 r) r<|ea r<|gk rfl<|gk rfl<|gk rfl<|gk rfl<|an r<|ct r<|sr<|lv (af r) r<|so r r<|an r<|jr<|kd ?_
     have e : hZ s = (u2, 15) := by unfold hZ; rw [if_neg (by omega), if_neg (by omega), if_pos (by omega)]
     exact cw rfl rfl rfl rfl () trivial (by rw [e]; rfl) Ent.take
   ·refine jf h3 rfl ?_
    refine lv (bi r h3 r) r<|ea r<|gk rfl<|gk rfl<|gk rfl<|gk rfl<|gk rfl<|eb r<|gk rfl<|gk rfl<|gk rfl<|gk rfl<|an r<|ct r<|sr<|lv (af r) r<|so r r<|an r<|jr<|kd ?_
    have e : hZ s = (u2, 15) := by unfold hZ; rw [if_neg (by omega), if_neg (by omega), if_pos (by omega)]
    exact cw rfl rfl rfl rfl () trivial (by rw [e]; rfl) Ent.take
end
end Go.Proofs.YtpkcniedaabpoaaGreat
