/- Rules of a separation logic over the model, and what functions of the translation do; used by the texts that import this one. -/
import Derived.Test.YtpkcniedaabpoaaGreatM10
set_option linter.unusedVariables false
set_option linter.unusedSimpArgs false
namespace Go.Proofs.YtpkcniedaabpoaaGreat
open Go.SLA Go.Proofs.Tryz
set_option maxRecDepth 100000
attribute [local irreducible] FSpec J K L OpV OpX QL Rd Rg bd
section
namespace Sp
open Mq
variable {f : FuncId} {args : Array Value} {P R : ab}
theorem yW (vl h nt sq : Int) (d : ByteArray) (hv : (eL vl).2 ≠ 0) : FSpec Tryz.prog 12 #[.agg [I vl, I h, I nt, I sq, .string d].toArray] (emp) (fun _ : Unit => True) (fun _ => .tuple #[Z, I (eL vl).2]) (fun _ => emp) := by
 refine eH Tryz.func12 rfl Tryz.ntmps12 rfl fun _ F=>bG<|bb<|aJ ?_
 refine fp rfl (aV (l := [I vl, I h, I nt, I sq, .string d]) rfl rfl) (fun b1 _ => ?_)
 refine aT (aH rfl) rfl<|aT (aH rfl) rfl<|bF<|aS<|bb<|aJ<|aT (aj rfl) rfl<|aT (ar rfl (aC rfl)) rfl ?_
 refine fp rfl (ai (j2 vl) rfl rfl rfl) (fun _ _ => ?_)
 refine cj<|aT (ao rfl) rfl<|aT ((ap (v := ag (eL vl).1) rfl rfl)) rfl<|aT ((ap (v := I (eL vl).2) rfl rfl)) rfl ?_
 refine fp rfl (bq rfl) (fun b6 _ => ?_)
 refine fp rfl (dk (m := 6) rfl rfl (da (gb vl).1) (et _) rfl) (fun _ _ => ?_)
 refine aT (aH rfl) rfl<|bF<|aS<|bb<|bb<|aJ<|aT (ao rfl) rfl<|aT ((bs rfl rfl).bool_t hv) rfl<|bF<|aS<|dG rfl<|bb<|aJ<|aT (ao rfl) rfl<|aT (aH rfl) rfl<|aT (aH rfl) rfl<|bF<|aS<|me<|dD ?_
 exact cH rfl rfl rfl () trivial rfl (by rw [bN]; exact Ent.trans Ent.drop (Ent.drop))
theorem yV (vl h nt sq : Int) (d : ByteArray) (hv : (eL vl).2 = 0) (hs : (eI h nt).2 ≠ 0) : FSpec Tryz.prog 12 #[.agg [I vl, I h, I nt, I sq, .string d].toArray] (emp) (fun _ : Unit => True) (fun _ => .tuple #[Z, I (eI h nt).2]) (fun _ => emp) := by
 refine eH Tryz.func12 rfl Tryz.ntmps12 rfl fun _ F=>bG<|bb<|aJ ?_
 refine fp rfl (aV (l := [I vl, I h, I nt, I sq, .string d]) rfl rfl) (fun b1 _ => ?_)
 refine aT (aH rfl) rfl<|aT (aH rfl) rfl<|bF<|aS<|bb<|aJ<|aT (aj rfl) rfl<|aT (ar rfl (aC rfl)) rfl ?_
 refine fp rfl (ai (j2 vl) rfl rfl rfl) (fun _ _ => ?_)
 refine cj<|aT (ao rfl) rfl<|aT ((ap (v := ag (eL vl).1) rfl rfl)) rfl<|aT ((ap (v := I (eL vl).2) rfl rfl)) rfl ?_
 refine fp rfl (bq rfl) (fun b6 _ => ?_)
 refine fp rfl (dk (m := 6) rfl rfl (da (gb vl).1) (et _) rfl) (fun _ _ => ?_)
 refine aT (aH rfl) rfl<|bF<|aS<|bb<|bb<|aJ<|aT (ao rfl) rfl<|aT ((bs rfl rfl).bool_f (by simp [hv])) rfl<|bF<|aS<|dc rfl<|ew<|aS<|bb<|aJ<|aT (aj rfl) rfl<|aT (ar rfl (aC rfl)) rfl<|aT (aj rfl) rfl<|aT (ar rfl (aC rfl)) rfl<|aT (af rfl) rfl ?_
 refine fp rfl (ai (ig h nt) rfl rfl rfl) (fun _ _ => ?_)
 refine cj<|aT (ao rfl) rfl<|aT ((ap (v := ag (eI h nt).1) rfl rfl)) rfl<|aT ((ap (v := I (eI h nt).2) rfl rfl)) rfl ?_
 refine fp rfl (bq rfl) (fun b10 _ => ?_)
 refine fp rfl (dk (m := 6) rfl rfl (da (ff h nt).1) (et _) rfl) (fun _ _ => ?_)
 refine aT (aH rfl) rfl<|bF<|aS<|bb<|bb<|aJ<|aT (ao rfl) rfl<|aT ((bs rfl rfl).bool_t hs) rfl<|bF<|aS<|dG rfl<|bb<|aJ<|aT (ao rfl) rfl<|aT (aH rfl) rfl<|aT (aH rfl) rfl<|bF<|aS<|me<|dD ?_
 exact cH rfl rfl rfl () trivial rfl (by rw [bN]; exact Ent.trans Ent.drop (Ent.trans Ent.drop (Ent.drop)))
theorem De (p : Nat) (s : ByteArray) (m : Int) (hm : -9223372036854775808 <= m /\ m <= 9223372036854775807) (hk : ¬ (0 <= m /\ m <= 255)) (hs : s.size <= 1099511627776) : FSpec Tryz.prog 31 #[Pt p 0, I m] (WrP p s false) (fun _ : Unit => True) (fun _ => .tuple #[]) (fun _ => WrP p s true) := by
 have h := qB p s false m hm hs
 have e : jK s false m 1 = (s, true) := by unfold jK; rw [if_neg (by decide), if_neg (fun h => hk (fit8e.1 h))]
 rw [e] at h
 exact h
set_option maxHeartbeats 800000 in
theorem yU (vl h nt sq : Int) (d : ByteArray) (hv : (eL vl).2 = 0) (hs : (eI h nt).2 = 0) (hr : -9223372036854775808 <= sq /\ sq <= 9223372036854775807) (hq : ¬ (0 <= sq /\ sq <= 255)) (hd : d.size <= 1499) : FSpec Tryz.prog 12 #[.agg [I vl, I h, I nt, I sq, .string d].toArray] (emp) (fun _ : Unit => True) (fun _ => .tuple #[Z, I 1]) (fun _ => emp) := by
 have hz1 := iq (eL vl).1
 have hz2 := iq (eI h nt).1
 rw [th] at hz1
 rw [sZ] at hz2
 have hz3 : (tx (eL vl).1 ++ tx (eI h nt).1).size = 12 := by rw [ByteArray.size_append, hz1, hz2]
 have hz4 : ((tx (eL vl).1 ++ tx (eI h nt).1) ++ be 2048 2).size = 14 := by rw [ByteArray.size_append, hz3, bu]
 have hz5 : (d ++ fL (45 - d.size)).size = d.size + (45 - d.size) := by rw [ByteArray.size_append, eS]
 have hz6 : (((tx (eL vl).1 ++ tx (eI h nt).1) ++ be 2048 2) ++ (d ++ fL (45 - d.size))).size = 14 + (d.size + (45 - d.size)) := by rw [ByteArray.size_append, hz4, hz5]
 have hzB := ki vl h nt sq d
 refine en Tryz.func12 r fun _ F=>bG<|sr<|lx r (aV (l := [I vl, I h, I nt, I sq, .string d]) r r) fun b1 _=>eb r<|nr<|fz r<|ld r r<|cy (j2 vl) r fun _=>cj<|ea r<|lv ((ap (v := ag (eL vl).1) r r)) r<|lv ((ap (v := I (eL vl).2) r r)) r<|al r fun b6=>lx r (dk (m := 6) r r (da (gb vl).1) (et _) r) fun _ _=>an r<|js<|sa r<|lv ((bs r r).bool_f (by simp [hv])) r<|nf r<|sk<|sr<|fz r<|ld r r<|fz r<|ld r r<|lv (af r) r<|cy (ig h nt) r fun _=>cj<|ea r<|lv ((ap (v := ag (eI h nt).1) r r)) r<|lv ((ap (v := I (eI h nt).2) r r)) r<|al r fun b10=>lx r (dk (m := 6) r r (da (ff h nt).1) (et _) r) fun _ _=>an r<|js<|sa r<|lv ((bs r r).bool_f (by simp [hs])) r<|nf r<|sk<|sr<|lv (af r) r<|bx r fun p=>an r<|js<|fC _ kl<|av ((aa (am b6 ((eL vl).1.map eZ) 102) (am b10 ((eI h nt).1.map eZ) 102))) (emp) [] ae<|pe 0 r r<|ps 1 r (eV r)<|ps 2 r ((iM ((eL vl).1.map fun w => ((w : Nat) : Int)) r (lj _) (by rw [List.length_map, th]) (pJ (gb vl).1)).as (v' := .string (tx (eL vl).1)) r)<|ps 3 r (eV r)<|ps 4 r ((iM ((eI h nt).1.map fun w => ((w : Nat) : Int)) r (lj _) (by rw [List.length_map, sZ]) (pJ (ff h nt).1)).as (v' := .string (tx (eI h nt).1)) r)<|ps 5 r (ej r r (by omega))<|pn 6 r (ai (fA p (aY []) (tx (eL vl).1 ++ tx (eI h nt).1) (by decide) (by omega)) r r r) fun _ _=>dn<|kt<|js ?_
 rw [lJ]
 refine jg<|ea r<|cy (iB p (tx (eL vl).1 ++ tx (eI h nt).1) 2048 (by decide) (by omega)) r fun _=>nj<|av (am b1 [I vl, I h, I nt, I sq, .string d] 46) (emp) [] ae<|pe 0 r r<|ps 1 r (aj r)<|pl 2 r r r<|ps 3 r (aj r)<|pl 4 r r r<|ps 5 r (aX r)<|ps 6 r ((bm r r (by omega)))<|ps 7 r ((iw r r).as (v' := I ((45 - d.size : Nat) : Int)) (congrArg (Value.int .i64) (by split <;> omega)))<|pn 8 r (ai (uO (45 - d.size) (by omega)) r r r) fun _ _=>kW<|ps 9 r (ej r r (by rw [eS]; omega))<|pn 10 r (ai (fA p ((tx (eL vl).1 ++ tx (eI h nt).1) ++ be 2048 2) (d ++ fL (45 - d.size)) (by omega) (by omega)) r r r) fun _ _=>dn<|kt<|sa r<|fz r<|ld r r<|cy (De p (((tx (eL vl).1 ++ tx (eI h nt).1) ++ be 2048 2) ++ (d ++ fL (45 - d.size))) sq hr hq (by omega)) r fun _=>nr<|ea r<|cy (wm p (((tx (eL vl).1 ++ tx (eI h nt).1) ++ be 2048 2) ++ (d ++ fL (45 - d.size)))) r fun _=>ea r<|lv (ap r r) r<|lv (ap r r) r<|eb r<|nj<|jb<|sa r<|eR r<|an r<|ct r<|sr<|ec r<|nk<|jr<|kq<|kd ?_
 exact cH rfl rfl rfl () trivial rfl (by rw [bN]; repeat (first | exact ah F | refine Ent.trans Ent.drop ?_))
theorem yT (vl h nt sq : Int) (d : ByteArray) (hr : -9223372036854775808 <= sq /\ sq <= 9223372036854775807) (hd : d.size <= 1499) : FSpec Tryz.prog 12 #[.agg [I vl, I h, I nt, I sq, .string d].toArray] emp (fun r : ByteArray × Int => r.2 = 0 -> ((eL vl).2 = 0 /\ (eI h nt).2 = 0 /\ 0 <= sq /\ sq <= 255) /\ r.1 = aL vl h nt sq d) (fun r => .tuple #[.string r.1, I r.2]) (fun _ => emp) := by
 by_cases hv : (eL vl).2 = 0
 ·by_cases hs : (eI h nt).2 = 0
  ·by_cases hq : 0 <= sq /\ sq <= 255
   ·exact (k6 vl h nt sq d hv hs hq hd).conseq (ah _) fun _ _ => ⟨(aL vl h nt sq d, 0), fun _ => ⟨⟨hv, hs, hq⟩, rfl⟩, rfl, ah _⟩
   ·exact (yU vl h nt sq d hv hs hr hq hd).conseq (ah _) fun _ _ => ⟨(⟨#[]⟩, 1), fun e => absurd (show (1 : Int) = 0 from e) (by decide), rfl, ah _⟩
  ·exact (yV vl h nt sq d hv hs).conseq (ah _) fun _ _ => ⟨(⟨#[]⟩, (eI h nt).2), fun e => absurd e hs, rfl, ah _⟩
 ·exact (yW vl h nt sq d hv).conseq (ah _) fun _ _ => ⟨(⟨#[]⟩, (eL vl).2), fun e => absurd e hv, rfl, ah _⟩
theorem ck {prog : Program} {P' Q Q' : ab} {e : Int} (he : e ≠ 0) [h : SLA.Take P P' R] (k : Go.SLA.Sp prog f args P' (I e) Q') (t : Ent (aa (Q') (R)) Q) : FSpec prog f args P (fun e : Int => e ≠ 0) (fun e => I e) (fun _ => Q) := by
 rw [h.eq]
 exact (k.frame R).conseq (ah _) fun _ _ => ⟨e, he, rfl, t⟩
theorem km (fl : Int -> Option Value) : SwX 2 fl = XS fl 11 := rfl
theorem dR (fl : Int -> Option Value) : SwX 3 fl = (aa (XS fl 11) (XS fl 12)) := rfl
theorem XS.pick {X : Type} {φ : X -> Prop} {val : X -> Value} {Q : X -> ab} (fl : Int -> Option Value) (id : Int) [h : SLA.Take P (XS fl id) R] (k : ∀ y : Nat × (Nat -> Value), fl id = some (Pt y.1 0) -> FSpec Tryz.prog f args (aa (am y.1 [y.2 0, I 0, y.2 1, y.2 2, y.2 3, y.2 4, y.2 5, y.2 6, y.2 7, y.2 8] 213) (R)) φ val Q) : FSpec Tryz.prog f args P φ val Q := by
 rw [h.eq]
 refine cC fun y =>FSpec.eq _ (ak _ _ _) ?_
 exact aO (k y)
theorem XS.fold {fl : Int -> Option Value} {id : Int} (y : Nat × (Nat -> Value)) (h : fl id = some (Pt y.1 0)) : Ent (am y.1 [y.2 0, I 0, y.2 1, y.2 2, y.2 3, y.2 4, y.2 5, y.2 6, y.2 7, y.2 8] 213) (XS fl id) := Ent.trans (Ent.lift h) (bh (f := fun y : Nat × (Nat -> Value) => (aa (SLA.lift (fl id = some (Pt y.1 0))) (am y.1 [y.2 0, I 0, y.2 1, y.2 2, y.2 3, y.2 4, y.2 5, y.2 6, y.2 7, y.2 8] 213))) y)
theorem Dx (p n : Nat) (hn3 : n = 1 \/ n = 2 \/ n = 3) (g sm bg P J now T a vl ho sq : Int) (d : ByteArray) (h : now <= a /\ a <= 10000000) (hv : (eL vl).2 = 0) (hs : (eI ho g).2 = 0) (hq : 0 <= sq /\ sq <= 255) (hd : d.size <= 1499) : FSpec Tryz.prog 62 #[Pt p 0, I a, I 2, .string (aL vl ho g sq d), I 0] (SwI p n g sm bg P J now T) (fun e : Int => e ≠ 0) (fun e => I e) (fun _ => (SwI p n g sm bg P J a T)) := by
 refine FSpec.ex fun v =>aO fun hh => ?_
 have hn := hh.nw; have hon := hh.on
 by_cases hf : v.fl vl = none
 ·by_cases hho : ho = 2
  ·refine ck (e := 27) (by decide) (xp p v.ob v.oo v.oc v.lr v.cr v.wv now a g vl ho sq d v.cF v.fl hh.g hv hs hf ⟨by omega, by omega, by omega, by omega, by omega, by omega, hho⟩) ?_
   refine Ent.trans ?_ (SwI.fold { v with cF := fun m' => if m' = 27 then IntKind.wrap .i64 (v.cF 27 + 1) else v.cF m' } ?_)
   ·exact Ent.take
   ·exact { hh with nw := by omega, on := by dsimp only; omega }
  ·refine ck (e := 14) (by decide) (xq p v.ob v.oo v.oc v.lr v.cr v.wv now a g vl ho sq d v.cF v.fl hh.g hv hs hf ⟨by omega, by omega, by omega, by omega, by omega, by omega, hho⟩) ?_
   refine Ent.trans ?_ (SwI.fold { v with cF := fun m' => if m' = 14 then IntKind.wrap .i64 (v.cF 14 + 1) else v.cF m' } ?_)
   ·exact Ent.take
   ·exact { hh with nw := by omega, on := by dsimp only; omega }
 ·have hdom := hh.dom vl hf
  by_cases h10 : vl = 10
  ·have hten : v.fl vl = some (Pt v.lb 0) := by rw [h10]; exact hh.ten
   by_cases hho : ho = 2
   ·refine ck (e := 27) (by decide) (jQ p v.ob v.oo v.oc v.lr v.cr v.wv now a g vl ho sq d v.cF v.fl hh.g hv hs (I 10) (I bg) (I sm) Ff (I 2) (I 60000) (Sk v.tb v.to 1 v.tc) (Pt v.ac 0) (I v.last) v.lb hten ⟨by omega, by omega, by omega, by omega, by omega, by omega, hho⟩) ?_
    refine Ent.trans ?_ (SwI.fold { v with cF := fun m' => if m' = 27 then IntKind.wrap .i64 (v.cF 27 + 1) else v.cF m' } ?_)
    ·exact Ent.take
    ·exact { hh with nw := by omega, on := by dsimp only; omega }
   ·refine ck (e := 14) (by decide) (jP p v.ob v.oo v.oc v.lr v.cr v.wv now a g vl ho sq d v.cF v.fl hh.g hv hs v.lb hten ⟨by omega, by omega, by omega, by omega, by omega, by omega, hho⟩) ?_
    refine Ent.trans ?_ (SwI.fold { v with cF := fun m' => if m' = 14 then IntKind.wrap .i64 (v.cF 14 + 1) else v.cF m' } ?_)
    ·exact Ent.take
    ·exact { hh with nw := by omega, on := by dsimp only; omega }
  ·rcases hn3 with rfl | rfl | rfl
   ·omega
   ·have hvl : vl = 11 := by omega
    rw [km]
    refine XS.pick v.fl 11 fun y hy => ?_
    by_cases hho : ho = 2
    ·refine ck (e := 27) (by decide) (jQ p v.ob v.oo v.oc v.lr v.cr v.wv now a g vl ho sq d v.cF v.fl hh.g hv hs (y.2 0) (y.2 1) (y.2 2) (y.2 3) (y.2 4) (y.2 5) (y.2 6) (y.2 7) (y.2 8) y.1 (by rw [hvl]; exact hy) ⟨by omega, by omega, by omega, by omega, by omega, by omega, hho⟩) ?_
     refine Ent.trans ?_ (SwI.fold { v with cF := fun m' => if m' = 27 then IntKind.wrap .i64 (v.cF 27 + 1) else v.cF m' } ?_)
     ·rw [km]; exact Ent.trans (dz (XS.fold y hy)) Ent.take
     ·exact { hh with nw := by omega, on := by dsimp only; omega }
    ·refine ck (e := 14) (by decide) (jP p v.ob v.oo v.oc v.lr v.cr v.wv now a g vl ho sq d v.cF v.fl hh.g hv hs y.1 (by rw [hvl]; exact hy) ⟨by omega, by omega, by omega, by omega, by omega, by omega, hho⟩) ?_
     refine Ent.trans ?_ (SwI.fold { v with cF := fun m' => if m' = 14 then IntKind.wrap .i64 (v.cF 14 + 1) else v.cF m' } ?_)
     ·rw [km]; exact Ent.trans (dz (XS.fold y hy)) Ent.take
     ·exact { hh with nw := by omega, on := by dsimp only; omega }
   ·rcases (show vl = 11 \/ vl = 12 by omega) with hvl | hvl
    ·rw [dR]
     refine XS.pick v.fl 11 fun y hy => ?_
     by_cases hho : ho = 2
     ·refine ck (e := 27) (by decide) (jQ p v.ob v.oo v.oc v.lr v.cr v.wv now a g vl ho sq d v.cF v.fl hh.g hv hs (y.2 0) (y.2 1) (y.2 2) (y.2 3) (y.2 4) (y.2 5) (y.2 6) (y.2 7) (y.2 8) y.1 (by rw [hvl]; exact hy) ⟨by omega, by omega, by omega, by omega, by omega, by omega, hho⟩) ?_
      refine Ent.trans ?_ (SwI.fold { v with cF := fun m' => if m' = 27 then IntKind.wrap .i64 (v.cF 27 + 1) else v.cF m' } ?_)
      ·rw [dR]; exact Ent.trans (dz (XS.fold y hy)) Ent.take
      ·exact { hh with nw := by omega, on := by dsimp only; omega }
     ·refine ck (e := 14) (by decide) (jP p v.ob v.oo v.oc v.lr v.cr v.wv now a g vl ho sq d v.cF v.fl hh.g hv hs y.1 (by rw [hvl]; exact hy) ⟨by omega, by omega, by omega, by omega, by omega, by omega, hho⟩) ?_
      refine Ent.trans ?_ (SwI.fold { v with cF := fun m' => if m' = 14 then IntKind.wrap .i64 (v.cF 14 + 1) else v.cF m' } ?_)
      ·rw [dR]; exact Ent.trans (dz (XS.fold y hy)) Ent.take
      ·exact { hh with nw := by omega, on := by dsimp only; omega }
    ·rw [dR]
     refine XS.pick v.fl 12 fun y hy => ?_
     by_cases hho : ho = 2
     ·refine ck (e := 27) (by decide) (jQ p v.ob v.oo v.oc v.lr v.cr v.wv now a g vl ho sq d v.cF v.fl hh.g hv hs (y.2 0) (y.2 1) (y.2 2) (y.2 3) (y.2 4) (y.2 5) (y.2 6) (y.2 7) (y.2 8) y.1 (by rw [hvl]; exact hy) ⟨by omega, by omega, by omega, by omega, by omega, by omega, hho⟩) ?_
      refine Ent.trans ?_ (SwI.fold { v with cF := fun m' => if m' = 27 then IntKind.wrap .i64 (v.cF 27 + 1) else v.cF m' } ?_)
      ·rw [dR]; exact Ent.trans (dz (XS.fold y hy)) Ent.take
      ·exact { hh with nw := by omega, on := by dsimp only; omega }
     ·refine ck (e := 14) (by decide) (jP p v.ob v.oo v.oc v.lr v.cr v.wv now a g vl ho sq d v.cF v.fl hh.g hv hs y.1 (by rw [hvl]; exact hy) ⟨by omega, by omega, by omega, by omega, by omega, by omega, hho⟩) ?_
      refine Ent.trans ?_ (SwI.fold { v with cF := fun m' => if m' = 14 then IntKind.wrap .i64 (v.cF 14 + 1) else v.cF m' } ?_)
      ·rw [dR]; exact Ent.trans (dz (XS.fold y hy)) Ent.take
      ·exact { hh with nw := by omega, on := by dsimp only; omega }
theorem DA (p n : Nat) (hn3 : n = 1 \/ n = 2 \/ n = 3) (g sm bg P J now T a vl ho sq : Int) (d : ByteArray) (x : ByteArray) (xb xe : Int) (h : now <= a /\ a <= 10000000) (hv : (eL vl).2 = 0) (hs : (eI ho g).2 = 0) (hq : 0 <= sq /\ sq <= 255) (hd : d.size <= 1499) : FSpec Tryz.prog 62 #[Pt p 0, I a, I 2, .string (aL vl ho g sq d), I 0] (SwB p n g sm bg P J now T x xb xe) (fun e : Int => e ≠ 0) (fun e => I e) (fun _ => (SwB p n g sm bg P J a T x xb xe)) := by
 refine FSpec.ex fun v =>aO fun hB => ?_
 obtain ⟨hh, hx0⟩ := hB
 have hn := hh.nw; have hon := hh.on
 by_cases hf : v.fl vl = none
 ·by_cases hho : ho = 2
  ·refine ck (e := 27) (by decide) (xp p v.ob v.oo v.oc v.lr v.cr v.wv now a g vl ho sq d v.cF v.fl hh.g hv hs hf ⟨by omega, by omega, by omega, by omega, by omega, by omega, hho⟩) ?_
   refine Ent.trans ?_ (SwB.fold { v with cF := fun m' => if m' = 27 then IntKind.wrap .i64 (v.cF 27 + 1) else v.cF m' } ⟨?_, hx0⟩)
   ·exact Ent.take
   ·exact { hh with nw := by omega, on := by dsimp only; omega }
  ·refine ck (e := 14) (by decide) (xq p v.ob v.oo v.oc v.lr v.cr v.wv now a g vl ho sq d v.cF v.fl hh.g hv hs hf ⟨by omega, by omega, by omega, by omega, by omega, by omega, hho⟩) ?_
   refine Ent.trans ?_ (SwB.fold { v with cF := fun m' => if m' = 14 then IntKind.wrap .i64 (v.cF 14 + 1) else v.cF m' } ⟨?_, hx0⟩)
   ·exact Ent.take
   ·exact { hh with nw := by omega, on := by dsimp only; omega }
 ·have hdom := hh.dom vl hf
  by_cases h10 : vl = 10
  ·have hten : v.fl vl = some (Pt v.lb 0) := by rw [h10]; exact hh.ten
   by_cases hho : ho = 2
   ·refine ck (e := 27) (by decide) (jQ p v.ob v.oo v.oc v.lr v.cr v.wv now a g vl ho sq d v.cF v.fl hh.g hv hs (I 10) (I bg) (I sm) Ff (I 2) (I 60000) (Sk v.tb v.to 1 v.tc) (Pt v.ac 0) (I v.last) v.lb hten ⟨by omega, by omega, by omega, by omega, by omega, by omega, hho⟩) ?_
    refine Ent.trans ?_ (SwB.fold { v with cF := fun m' => if m' = 27 then IntKind.wrap .i64 (v.cF 27 + 1) else v.cF m' } ⟨?_, hx0⟩)
    ·exact Ent.take
    ·exact { hh with nw := by omega, on := by dsimp only; omega }
   ·refine ck (e := 14) (by decide) (jP p v.ob v.oo v.oc v.lr v.cr v.wv now a g vl ho sq d v.cF v.fl hh.g hv hs v.lb hten ⟨by omega, by omega, by omega, by omega, by omega, by omega, hho⟩) ?_
    refine Ent.trans ?_ (SwB.fold { v with cF := fun m' => if m' = 14 then IntKind.wrap .i64 (v.cF 14 + 1) else v.cF m' } ⟨?_, hx0⟩)
    ·exact Ent.take
    ·exact { hh with nw := by omega, on := by dsimp only; omega }
  ·rcases hn3 with rfl | rfl | rfl
   ·omega
   ·have hvl : vl = 11 := by omega
    rw [km]
    refine XS.pick v.fl 11 fun y hy => ?_
    by_cases hho : ho = 2
    ·refine ck (e := 27) (by decide) (jQ p v.ob v.oo v.oc v.lr v.cr v.wv now a g vl ho sq d v.cF v.fl hh.g hv hs (y.2 0) (y.2 1) (y.2 2) (y.2 3) (y.2 4) (y.2 5) (y.2 6) (y.2 7) (y.2 8) y.1 (by rw [hvl]; exact hy) ⟨by omega, by omega, by omega, by omega, by omega, by omega, hho⟩) ?_
     refine Ent.trans ?_ (SwB.fold { v with cF := fun m' => if m' = 27 then IntKind.wrap .i64 (v.cF 27 + 1) else v.cF m' } ⟨?_, hx0⟩)
     ·rw [km]; exact Ent.trans (dz (XS.fold y hy)) Ent.take
     ·exact { hh with nw := by omega, on := by dsimp only; omega }
    ·refine ck (e := 14) (by decide) (jP p v.ob v.oo v.oc v.lr v.cr v.wv now a g vl ho sq d v.cF v.fl hh.g hv hs y.1 (by rw [hvl]; exact hy) ⟨by omega, by omega, by omega, by omega, by omega, by omega, hho⟩) ?_
     refine Ent.trans ?_ (SwB.fold { v with cF := fun m' => if m' = 14 then IntKind.wrap .i64 (v.cF 14 + 1) else v.cF m' } ⟨?_, hx0⟩)
     ·rw [km]; exact Ent.trans (dz (XS.fold y hy)) Ent.take
     ·exact { hh with nw := by omega, on := by dsimp only; omega }
   ·rcases (show vl = 11 \/ vl = 12 by omega) with hvl | hvl
    ·rw [dR]
     refine XS.pick v.fl 11 fun y hy => ?_
     by_cases hho : ho = 2
     ·refine ck (e := 27) (by decide) (jQ p v.ob v.oo v.oc v.lr v.cr v.wv now a g vl ho sq d v.cF v.fl hh.g hv hs (y.2 0) (y.2 1) (y.2 2) (y.2 3) (y.2 4) (y.2 5) (y.2 6) (y.2 7) (y.2 8) y.1 (by rw [hvl]; exact hy) ⟨by omega, by omega, by omega, by omega, by omega, by omega, hho⟩) ?_
      refine Ent.trans ?_ (SwB.fold { v with cF := fun m' => if m' = 27 then IntKind.wrap .i64 (v.cF 27 + 1) else v.cF m' } ⟨?_, hx0⟩)
      ·rw [dR]; exact Ent.trans (dz (XS.fold y hy)) Ent.take
      ·exact { hh with nw := by omega, on := by dsimp only; omega }
     ·refine ck (e := 14) (by decide) (jP p v.ob v.oo v.oc v.lr v.cr v.wv now a g vl ho sq d v.cF v.fl hh.g hv hs y.1 (by rw [hvl]; exact hy) ⟨by omega, by omega, by omega, by omega, by omega, by omega, hho⟩) ?_
      refine Ent.trans ?_ (SwB.fold { v with cF := fun m' => if m' = 14 then IntKind.wrap .i64 (v.cF 14 + 1) else v.cF m' } ⟨?_, hx0⟩)
      ·rw [dR]; exact Ent.trans (dz (XS.fold y hy)) Ent.take
      ·exact { hh with nw := by omega, on := by dsimp only; omega }
    ·rw [dR]
     refine XS.pick v.fl 12 fun y hy => ?_
     by_cases hho : ho = 2
     ·refine ck (e := 27) (by decide) (jQ p v.ob v.oo v.oc v.lr v.cr v.wv now a g vl ho sq d v.cF v.fl hh.g hv hs (y.2 0) (y.2 1) (y.2 2) (y.2 3) (y.2 4) (y.2 5) (y.2 6) (y.2 7) (y.2 8) y.1 (by rw [hvl]; exact hy) ⟨by omega, by omega, by omega, by omega, by omega, by omega, hho⟩) ?_
      refine Ent.trans ?_ (SwB.fold { v with cF := fun m' => if m' = 27 then IntKind.wrap .i64 (v.cF 27 + 1) else v.cF m' } ⟨?_, hx0⟩)
      ·rw [dR]; exact Ent.trans (dz (XS.fold y hy)) Ent.take
      ·exact { hh with nw := by omega, on := by dsimp only; omega }
     ·refine ck (e := 14) (by decide) (jP p v.ob v.oo v.oc v.lr v.cr v.wv now a g vl ho sq d v.cF v.fl hh.g hv hs y.1 (by rw [hvl]; exact hy) ⟨by omega, by omega, by omega, by omega, by omega, by omega, hho⟩) ?_
      refine Ent.trans ?_ (SwB.fold { v with cF := fun m' => if m' = 14 then IntKind.wrap .i64 (v.cF 14 + 1) else v.cF m' } ⟨?_, hx0⟩)
      ·rw [dR]; exact Ent.trans (dz (XS.fold y hy)) Ent.take
      ·exact { hh with nw := by omega, on := by dsimp only; omega }
end Sp
end
section
namespace Sp
open Mq
structure NtV where
 kb : Nat
 ko : Nat
 kc : Nat
 fm : Nat
 sm : Nat
 k0 : Nat
 k1 : Nat
 k2 : Nat
 w0 : Nat
 w1 : Nat
 cS : Int -> Int
def NetG (nb : Nat) (z : CfA) (n : Nat) (nn : Int) (C0 C1 C2 U V : Nat -> ab) : ab := ex fun v : NtV => (aa (am nb [I 3, Sk z.pb z.po 3 z.pc, I 1000, Sk z.wb z.wo 3 z.wc, z.vl, Sk z.rb z.ro (bL n) z.rc, Sk v.kb v.ko 3 v.kc, Pt v.w0 0, Pt v.w1 0, Mp v.fm, Mp v.sm, Ns, I nn] 142) (aa (Ow 145 1 (Sk v.kb v.ko 3 v.kc) 3 [Pt v.k0 0, Pt v.k1 0, Pt v.k2 0]) (aa (eX v.fm [.int .i64, .int .i64, .int .i64] (fun _ => none)) (aa (mapc v.sm .i64 v.cS) (aa (C0 v.k0) (aa (C1 v.k1) (aa (C2 v.k2) (aa (U v.w0) (aa (V v.w1) (gT z n))))))))))
theorem NetG.fold {nb : Nat} {z : CfA} {n : Nat} {nn : Int} {C0 C1 C2 U V : Nat -> ab} (v : NtV) : Ent ((aa (am nb [I 3, Sk z.pb z.po 3 z.pc, I 1000, Sk z.wb z.wo 3 z.wc, z.vl, Sk z.rb z.ro (bL n) z.rc, Sk v.kb v.ko 3 v.kc, Pt v.w0 0, Pt v.w1 0, Mp v.fm, Mp v.sm, Ns, I nn] 142) (aa (Ow 145 1 (Sk v.kb v.ko 3 v.kc) 3 [Pt v.k0 0, Pt v.k1 0, Pt v.k2 0]) (aa (eX v.fm [.int .i64, .int .i64, .int .i64] (fun _ => none)) (aa (mapc v.sm .i64 v.cS) (aa (C0 v.k0) (aa (C1 v.k1) (aa (C2 v.k2) (aa (U v.w0) (aa (V v.w1) (gT z n))))))))))) (NetG nb z n nn C0 C1 C2 U V) := bh (f := fun v : NtV => (aa (am nb [I 3, Sk z.pb z.po 3 z.pc, I 1000, Sk z.wb z.wo 3 z.wc, z.vl, Sk z.rb z.ro (bL n) z.rc, Sk v.kb v.ko 3 v.kc, Pt v.w0 0, Pt v.w1 0, Mp v.fm, Mp v.sm, Ns, I nn] 142) (aa (Ow 145 1 (Sk v.kb v.ko 3 v.kc) 3 [Pt v.k0 0, Pt v.k1 0, Pt v.k2 0]) (aa (eX v.fm [.int .i64, .int .i64, .int .i64] (fun _ => none)) (aa (mapc v.sm .i64 v.cS) (aa (C0 v.k0) (aa (C1 v.k1) (aa (C2 v.k2) (aa (U v.w0) (aa (V v.w1) (gT z n))))))))))) v
theorem kv (nb : Nat) (z : CfA) (n : Nat) (nn a : Int) (C0 C1 C2 U V : Nat -> ab) (C0' C1' C2' U' V' : Nat -> ab) (hA : ∀ k, Go.SLA.Sp prog 135 #[Pt k 0, I a] (C0 k) (.tuple #[Ns, I 0]) (C0' k)) (hB : ∀ k, Go.SLA.Sp prog 135 #[Pt k 0, I a] (C1 k) (.tuple #[Ns, I 0]) (C1' k)) (hC : ∀ k, Go.SLA.Sp prog 135 #[Pt k 0, I a] (C2 k) (.tuple #[Ns, I 0]) (C2' k)) (hU : ∀ w, Go.SLA.Sp prog 137 #[Pt w 0, I a] (U w) (.tuple #[Ns, I 0]) (U' w)) (hV : ∀ w, Go.SLA.Sp prog 137 #[Pt w 0, I a] (V w) (.tuple #[Ns, I 0]) (V' w)) : Go.SLA.Sp prog 99 #[Pt nb 0, I a] (NetG nb z n nn C0 C1 C2 U V) (.tuple #[]) (NetG nb z n nn C0' C1' C2' U' V') := by
 refine FSpec.ex fun v =>Sp.via (EF nb v.kb v.ko v.kc v.fm v.sm (I 3) (Sk z.pb z.po 3 z.pc) (I 1000) (Sk z.wb z.wo 3 z.wc) z.vl (qq23 z n) nn a v.k0 v.k1 v.k2 v.w0 v.w1 v.cS (C0 v.k0) (C0' v.k0) (C1 v.k1) (C1' v.k1) (C2 v.k2) (C2' v.k2) (U v.w0) (U' v.w0) (V v.w1) (V' v.w1) (hA v.k0) (hB v.k1) (hC v.k2) (hU v.w0) (hV v.w1)) ?_
 exact Ent.trans Ent.take (NetG.fold v)
theorem wa (nb : Nat) (z : CfA) (n : Nat) (nn a : Int) (C0 C1 C2 U V : Nat -> ab) (C0' C1' C2' U' U2 V' V2 : Nat -> ab) (x0 x1 : ByteArray) (xb xe : Int) (hA : ∀ k, FSpec prog 135 #[Pt k 0, I a] (C0 k) (fun _ : Nat × Nat × Nat => True) (fun y => .tuple #[Sk y.1 y.2.1 1 y.2.2, I 0]) (fun y => (aa (C0' k) (Ow 299 5 (Sk y.1 y.2.1 1 y.2.2) 1 [I 10, I xb, I xe, .string x0, .string x1])))) (hB : ∀ k, Go.SLA.Sp prog 135 #[Pt k 0, I a] (C1 k) (.tuple #[Ns, I 0]) (C1' k)) (hC : ∀ k, Go.SLA.Sp prog 135 #[Pt k 0, I a] (C2 k) (.tuple #[Ns, I 0]) (C2' k)) (hU : ∀ w, Go.SLA.Sp prog 62 #[Pt w 0, I a, I 0, .string x0, I 0] (U w) (I 0) (U' w)) (hV : ∀ w, Go.SLA.Sp prog 62 #[Pt w 0, I a, I 0, .string x1, I 0] (V w) (I 0) (V' w)) (hU1 : ∀ w, Go.SLA.Sp prog 137 #[Pt w 0, I a] (U' w) (.tuple #[Ns, I 0]) (U2 w)) (hV1 : ∀ w, Go.SLA.Sp prog 137 #[Pt w 0, I a] (V' w) (.tuple #[Ns, I 0]) (V2 w)) : Go.SLA.Sp prog 99 #[Pt nb 0, I a] (NetG nb z n nn C0 C1 C2 U V) (.tuple #[]) (NetG nb z n nn C0' C1' C2' U2 V2) := by
 refine FSpec.ex fun v =>Sp.via (EG nb v.kb v.ko v.kc v.fm v.sm (I 3) (Sk z.pb z.po 3 z.pc) (I 1000) (Sk z.wb z.wo 3 z.wc) z.vl (qq23 z n) nn a v.k0 v.k1 v.k2 v.w0 v.w1 v.cS (C0 v.k0) (C0' v.k0) (C1 v.k1) (C1' v.k1) (C2 v.k2) (C2' v.k2) (U v.w0) (U' v.w0) (U2 v.w0) (V v.w1) (V' v.w1) (V2 v.w1) x0 x1 xb xe (hA v.k0) (hB v.k1) (hC v.k2) (hU v.w0) (hV v.w1) (hU1 v.w0) (hV1 v.w1)) ?_
 exact Ent.trans Ent.take (NetG.fold { v with cS := fun m' => if m' = 10 then IntKind.wrap .i64 (v.cS 10 + 1) else v.cS m' })
theorem v9 (nb : Nat) (z : CfA) (n : Nat) (nn a : Int) (C0 C1 C2 U V : Nat -> ab) (C0' C1a C1b C1' C2' U' V' : Nat -> ab) (x0 x1 : ByteArray) (xb xe v0 v1 : Int) (hA : ∀ k, Go.SLA.Sp prog 135 #[Pt k 0, I a] (C0 k) (.tuple #[Ns, I 0]) (C0' k)) (hB : ∀ k, Go.SLA.Sp prog 135 #[Pt k 0, I a] (C1 k) (.tuple #[Ns, I 0]) (C1a k)) (hC : ∀ k, Go.SLA.Sp prog 135 #[Pt k 0, I a] (C2 k) (.tuple #[Ns, I 0]) (C2' k)) (hU : ∀ w, FSpec prog 137 #[Pt w 0, I a] (U w) (fun _ : Nat × Nat × Nat => True) (fun y => .tuple #[Sk y.1 y.2.1 1 y.2.2, I 0]) (fun y => (aa (U' w) (Ow 305 5 (Sk y.1 y.2.1 1 y.2.2) 1 [I 1, I 10, .string x0, I xb, I xe])))) (hV : ∀ w, FSpec prog 137 #[Pt w 0, I a] (V w) (fun _ : Nat × Nat × Nat => True) (fun y => .tuple #[Sk y.1 y.2.1 1 y.2.2, I 0]) (fun y => (aa (V' w) (Ow 305 5 (Sk y.1 y.2.1 1 y.2.2) 1 [I 1, I 10, .string x1, I xb, I xe])))) (hI0 : ∀ k, Go.SLA.Sp prog 138 #[Pt k 0, I a, I 0, .string x0] ((aa (C1a k) (gT z n))) (I v0) ((aa (C1b k) (gT z n)))) (hI1 : ∀ k, Go.SLA.Sp prog 138 #[Pt k 0, I a, I 1, .string x1] ((aa (C1b k) (gT z n))) (I v1) ((aa (C1' k) (gT z n)))) : Go.SLA.Sp prog 99 #[Pt nb 0, I a] (NetG nb z n nn C0 C1 C2 U V) (.tuple #[]) (NetG nb z n nn C0' C1' C2' U' V') := by
 refine FSpec.ex fun v =>FSpec.eq (aa ((aa (C1 v.k1) (gT z n))) (aa (am nb [I 3, Sk z.pb z.po 3 z.pc, I 1000, Sk z.wb z.wo 3 z.wc, z.vl, Sk z.rb z.ro (bL n) z.rc, Sk v.kb v.ko 3 v.kc, Pt v.w0 0, Pt v.w1 0, Mp v.fm, Mp v.sm, Ns, I nn] 142) (aa (Ow 145 1 (Sk v.kb v.ko 3 v.kc) 3 [Pt v.k0 0, Pt v.k1 0, Pt v.k2 0]) (aa (eX v.fm [.int .i64, .int .i64, .int .i64] (fun _ => none)) (aa (mapc v.sm .i64 v.cS) (aa (C0 v.k0) (aa (C2 v.k2) (aa (U v.w0) (V v.w1))))))))) (by ac_rfl)<|Sp.via (EE nb v.kb v.ko v.kc v.fm v.sm (I 3) (Sk z.pb z.po 3 z.pc) (I 1000) (Sk z.wb z.wo 3 z.wc) z.vl (Sk z.rb z.ro (bL n) z.rc) nn a v.k0 v.k1 v.k2 v.w0 v.w1 v.cS (C0 v.k0) (C0' v.k0) (aa (C1 v.k1) (gT z n)) (aa (C1a v.k1) (gT z n)) (aa (C1b v.k1) (gT z n)) (aa (C1' v.k1) (gT z n)) (C2 v.k2) (C2' v.k2) (U v.w0) (U' v.w0) (V v.w1) (V' v.w1) x0 x1 xb xe v0 v1 (hA v.k0) (((hB v.k1).frame (gT z n))) (hC v.k2) (hU v.w0) (hV v.w1) (hI0 v.k1) (hI1 v.k1)) ?_
 refine Ent.trans (Ent.take (Q := (aa ((aa (C1' v.k1) (gT z n))) (aa (am nb [I 3, Sk z.pb z.po 3 z.pc, I 1000, Sk z.wb z.wo 3 z.wc, z.vl, Sk z.rb z.ro (bL n) z.rc, Sk v.kb v.ko 3 v.kc, Pt v.w0 0, Pt v.w1 0, Mp v.fm, Mp v.sm, Ns, I nn] 142) (aa (Ow 145 1 (Sk v.kb v.ko 3 v.kc) 3 [Pt v.k0 0, Pt v.k1 0, Pt v.k2 0]) (aa (eX v.fm [.int .i64, .int .i64, .int .i64] (fun _ => none)) (aa (mapc v.sm .i64 v.cS) (aa (C0' v.k0) (aa (C2' v.k2) (aa (U' v.w0) (V' v.w1))))))))))) (Ent.trans (Ent.of ?_) (NetG.fold v))
 ac_rfl
end Sp
end
section
namespace Sp
open Mq
variable {p : Int -> Prop} {A : Int -> ab} {f : FuncId} {args : Array Value} {v : Value} {id i t T a k xb xe g m : Int} {R rows : List ByteArray} {x0 x1 d x : ByteArray} {z : CfA} {n : Nat}
structure NC where
 z : CfA
 n : Nat
 sm : Int
 bg : Int
 P : Int
 J : Int
structure NCH (c : NC) : Prop where
 n : c.n = 1 \/ c.n = 2 \/ c.n = 3
 s : 80 <= c.sm /\ c.sm < 280
 bp : (c.bg = 0 /\ c.P = 12500) \/ (c.bg = 1 /\ c.P = 25000)
def kA (c : NC) (id i t T : Int) (R : List ByteArray) (p : Nat) : ab := ex fun tn : Int => (aa (SLA.lift (tn <= t)) (TxQ p c.n c.z.rb c.z.ro c.z.rc c.sm c.bg c.P id i tn T R))
def kL (c : NC) (id i t T : Int) (R : List ByteArray) (k : Int) (x0 x1 : ByteArray) (xb xe : Int) (p : Nat) : ab := ex fun tn : Int => (aa (SLA.lift (tn <= t)) (TxL p c.n c.z.rb c.z.ro c.z.rc c.sm c.bg c.P id i tn T R k x0 x1 xb xe))
def sI (c : NC) (g t T : Int) (p : Nat) : ab := ex fun tn : Int => (aa (SLA.lift (tn <= t)) (SwI p c.n g c.sm c.bg c.P c.J tn T))
def sB (c : NC) (g t T : Int) (x : ByteArray) (xb xe : Int) (p : Nat) : ab := ex fun tn : Int => (aa (SLA.lift (tn <= t)) (SwB p c.n g c.sm c.bg c.P c.J tn T x xb xe))
def K0 (c : NC) (m t : Int) (A : Nat -> ab) (k : Nat) : ab := KrP k c.z c.n 0 t (some (I m)) none A (fun _ _ => emp)
def K1 (c : NC) (m t : Int) (B : Nat -> Nat -> ab) (k : Nat) : ab := KrP k c.z c.n 1 t none (some (I m)) (fun tx => TxN tx t) B
def K2 (c : NC) (t : Int) (k : Nat) : ab := KrP k c.z c.n 2 t none none (fun tx => TxN tx t) (fun _ _ => emp)
theorem exl (t : Int) (h : p t) : Ent (A t) (SLA.ex fun tn : Int => (aa (SLA.lift (p tn)) (A tn))) := Ent.trans (Ent.lift h) (bh (f := fun tn : Int => (aa (SLA.lift (p tn)) (A tn))) t)
theorem mG {Q : ab} (k : ∀ tn, p tn -> Go.SLA.Sp prog f args (A tn) v Q) : Go.SLA.Sp prog f args (SLA.ex fun tn : Int => (aa (SLA.lift (p tn)) (A tn))) v Q := FSpec.ex fun tn => aO (k tn)
theorem Sp.to {A B C : ab} (k : Go.SLA.Sp prog f args A v B) (e : Ent B C) : Go.SLA.Sp prog f args A v C := k.conseq (ah _) fun _ _ => ⟨(), trivial, rfl, e⟩
theorem Cs {c : NC} (hc : NCH c) (h : t <= a /\ 0 <= a /\ a <= 10000000) (hf : R = [] \/ a < T) (p : Nat) : Go.SLA.Sp prog 162 #[Pt p 0, I a] (kA c id i t T R p) (.tuple #[Ns, I 0]) (kA c id i a T R p) :=
 mG fun tn ht => Sp.to (Ia p c.n c.z.rb c.z.ro c.z.rc hc.n c.sm c.bg c.P id i tn T a R ⟨by omega, h.2.2⟩ hf) (exl (A := fun tn => TxQ p c.n c.z.rb c.z.ro c.z.rc c.sm c.bg c.P id i tn T R) a (Int.le_refl _))
theorem HU {c : NC} (hc : NCH c) (h : t <= a /\ 0 <= a /\ a <= 10000000) (hx : a < xe) (p : Nat) : Go.SLA.Sp prog 162 #[Pt p 0, I a] (kL c id i t T R k x0 x1 xb xe p) (.tuple #[Ns, I 0]) (kL c id i a T R k x0 x1 xb xe p) :=
 mG fun tn ht => Sp.to (H9 p c.n c.z.rb c.z.ro c.z.rc hc.n c.sm c.bg c.P id i tn T a R k x0 x1 xb xe ⟨by omega, h.2.2⟩ hx) (exl (A := fun tn => TxL p c.n c.z.rb c.z.ro c.z.rc c.sm c.bg c.P id i tn T R k x0 x1 xb xe) a (Int.le_refl _))
theorem HW {c : NC} (hc : NCH c) (h : t <= a /\ 0 <= a /\ a <= 10000000) (hT : T <= a /\ a < T + 64) (hi : i <= 80) (p : Nat) : Go.SLA.Sp prog 162 #[Pt p 0, I a] (kA c id i t T (d :: R) p) (.tuple #[Ns, I 0]) (kL c id (i + 1) a (T + c.P) R i (aL 10 0 0 i d) (aL 10 0 1 i d) T (T + (((aL 10 0 0 i d).size : Int) + 20)) p) :=
 mG fun tn ht => Sp.to (H8 p c.n c.z.rb c.z.ro c.z.rc hc.n c.sm c.bg c.P id i tn T a R d ⟨by omega, h.2.2⟩ hT hi) (exl (A := fun tn => TxL p c.n c.z.rb c.z.ro c.z.rc c.sm c.bg c.P id (i + 1) tn (T + c.P) R i (aL 10 0 0 i d) (aL 10 0 1 i d) T (T + (((aL 10 0 0 i d).size : Int) + 20))) a (Int.le_refl _))
theorem HV {c : NC} (hc : NCH c) (h : t <= a /\ 0 <= a /\ a <= 10000000) (hx : xe <= a /\ a < xe + 60) (p : Nat) : FSpec prog 162 #[Pt p 0, I a] (kL c id i t T R k x0 x1 xb xe p) (fun _ : Nat × Nat × Nat => True) (fun y => .tuple #[Sk y.1 y.2.1 1 y.2.2, I 0]) (fun y => (aa (kA c id i a T R p) (Ow 299 5 (Sk y.1 y.2.1 1 y.2.2) 1 [I 10, I xb, I xe, .string x0, .string x1]))) :=
 FSpec.ex fun tn => aO fun ht => (Ib p c.n c.z.rb c.z.ro c.z.rc hc.n c.sm c.bg c.P id i tn T a R k x0 x1 xb xe ⟨by omega, h.2.2⟩ hx).conseq (ah _) fun y _ => ⟨y, trivial, rfl, Ent.frame (exl (p := fun tn => tn <= a) (A := fun tn => TxQ p c.n c.z.rb c.z.ro c.z.rc c.sm c.bg c.P id i tn T R) a (Int.le_refl _)) _⟩
theorem uY {c : NC} (h : t <= a /\ 0 <= a /\ a <= 10000000) (p : Nat) : Go.SLA.Sp prog 137 #[Pt p 0, I a] (sI c g t T p) (.tuple #[Ns, I 0]) (sI c g a T p) :=
 mG fun tn ht => Sp.to (Dw p c.n g c.sm c.bg c.P c.J tn T a ⟨by omega, h.2.2⟩) (exl (A := fun tn => SwI p c.n g c.sm c.bg c.P c.J tn T) a (Int.le_refl _))
theorem EU {c : NC} (h : t <= a /\ 0 <= a /\ a <= 10000000) (hx : a < xe) (p : Nat) : Go.SLA.Sp prog 137 #[Pt p 0, I a] (sB c g t T x xb xe p) (.tuple #[Ns, I 0]) (sB c g a T x xb xe p) :=
 mG fun tn ht => Sp.to (Dz p c.n g c.sm c.bg c.P c.J tn T a x xb xe ⟨by omega, h.2.2⟩ hx) (exl (A := fun tn => SwB p c.n g c.sm c.bg c.P c.J tn T x xb xe) a (Int.le_refl _))
theorem ES {c : NC} (h : t <= a /\ 0 <= a /\ a <= 10000000) (hT : T + 80 <= a /\ a <= T + 350) (hi : 0 <= i /\ i <= 200 /\ d.size <= 1000) (hz : ((aL 10 0 g i d).size : Int) <= c.sm) (p : Nat) : Go.SLA.Sp prog 62 #[Pt p 0, I a, I 0, .string (aL 10 0 g i d), I 0] (sI c g t T p) (I 0) (SwT p c.n g c.sm c.bg c.P c.J a (T + c.P) (aL 10 0 g i d)) :=
 mG fun tn ht => Dv p c.n g c.sm c.bg c.P c.J tn T a i d ⟨by omega, h.2.2⟩ hT hi hz
theorem ER {c : NC} (h : a <= 10000000) (hi : 0 <= i /\ i <= 200 /\ d.size <= 1000) (hz : ((aL 10 0 g i d).size : Int) <= 1000) (p : Nat) : Go.SLA.Sp prog 137 #[Pt p 0, I a] (SwT p c.n g c.sm c.bg c.P c.J a T (aL 10 0 g i d)) (.tuple #[Ns, I 0]) (sB c g a T (aL 10 0 g i d) a (a + (((aL 10 0 g i d).size : Int) + 20)) p) :=
 Sp.to (Du p c.n g c.sm c.bg c.P c.J a T a i d ⟨rfl, h⟩ hi hz) (exl (A := fun tn => SwB p c.n g c.sm c.bg c.P c.J tn T (aL 10 0 g i d) a (a + (((aL 10 0 g i d).size : Int) + 20))) a (Int.le_refl _))
theorem ET {c : NC} (h : t <= a /\ 0 <= a /\ a <= 10000000) (hx : xe <= a) (p : Nat) : FSpec prog 137 #[Pt p 0, I a] (sB c g t T x xb xe p) (fun _ : Nat × Nat × Nat => True) (fun y => .tuple #[Sk y.1 y.2.1 1 y.2.2, I 0]) (fun y => (aa (sI c g a T p) (Ow 305 5 (Sk y.1 y.2.1 1 y.2.2) 1 [I 1, I 10, .string x, I xb, I xe]))) :=
 FSpec.ex fun tn => aO fun ht => (Dy p c.n g c.sm c.bg c.P c.J tn T a x xb xe ⟨by omega, h.2.2⟩ hx).conseq (ah _) fun y _ => ⟨y, trivial, rfl, Ent.frame (exl (p := fun tn => tn <= a) (A := fun tn => SwI p c.n g c.sm c.bg c.P c.J tn T) a (Int.le_refl _)) _⟩
theorem Hz {c : NC} {xe' : Int} (h : t <= a /\ 0 <= a /\ a <= 10000000) (hx : xe <= a) (hb : xb = xb) (he : xe = xe') (p : Nat) : FSpec prog 137 #[Pt p 0, I a] (sB c g t T x xb xe p) (fun _ : Nat × Nat × Nat => True) (fun y => .tuple #[Sk y.1 y.2.1 1 y.2.2, I 0]) (fun y => (aa (sI c g a T p) (Ow 305 5 (Sk y.1 y.2.1 1 y.2.2) 1 [I 1, I 10, .string x, I xb, I xe']))) := he ▸ ET h hx p
theorem BxP.mono {sm : Int} {T : TS} {rx rm : Nat} (h : t <= a) : Ent (BxP z n sm i t T rows rx rm) (BxP z n sm i a T rows rx rm) :=
 Ent.frame (gl fun x ⟨xn, h1, h2, ha, hj, hl, hb⟩ => ⟨xn, h1, h2, ha, hj, ⟨⟨hl.1.1, Int.le_trans hl.1.2 h⟩, hl.2⟩, hb⟩) _
theorem KrP.mono {k : Nat} {host : Int} {m0 m1 : Option Value} {A : Nat -> ab} {B B' : Nat -> Nat -> ab} (h : ∀ rx rm, Ent (B rx rm) (B' rx rm)) : Ent (KrP k z n host t m0 m1 A B) (KrP k z n host t m0 m1 A B') := fun x hx => by
 obtain ⟨v, hv⟩ := hx
 obtain ⟨x', h1, h2⟩ := (aw (aw (aw (aw (h v.rx v.rm) _) _) _) _) x hv
 exact ⟨x', h1, v, h2⟩
theorem wg {c : NC} {T : TS} (h : t <= a /\ 0 <= a /\ a <= 10000000) (k : Nat) : Go.SLA.Sp prog 135 #[Pt k 0, I a] (K1 c m t (BxP c.z c.n c.sm i t T rows) k) (.tuple #[Ns, I 0]) (K1 c m a (BxP c.z c.n c.sm i a T rows) k) :=
 Sp.to (yN k c.z c.n 1 t a none (some (I m)) (fun tx => TxN tx t) (BxP c.z c.n c.sm i t T rows) (fun tx => TxN tx a) h (fun tx => BT tx t a ⟨h.1, h.2.2⟩)) (KrP.mono fun rx rm => BxP.mono h.1)
theorem we {c : NC} (h : t <= a /\ 0 <= a /\ a <= 10000000) (k : Nat) : Go.SLA.Sp prog 135 #[Pt k 0, I a] (K2 c t k) (.tuple #[Ns, I 0]) (K2 c a k) :=
 yN k c.z c.n 2 t a none none (fun tx => TxN tx t) _ (fun tx => TxN tx a) h (fun tx => BT tx t a ⟨h.1, h.2.2⟩)
def AR (c : NC) (nb : Nat) (m id nn t i T : Int) (R : List ByteArray) (Tb : TS) (rows : List ByteArray) : ab := NetG nb c.z c.n nn (K0 c m t (kA c id i t T R)) (K1 c m t (BxP c.z c.n c.sm i t Tb rows)) (K2 c t) (sI c 0 t T) (sI c 1 t T)
def AS (c : NC) (nb : Nat) (m id nn t i T : Int) (R : List ByteArray) (d : ByteArray) (Tb : TS) (rows : List ByteArray) : ab := NetG nb c.z c.n nn (K0 c m t (kL c id (i + 1) t (T + c.P) R i (aL 10 0 0 i d) (aL 10 0 1 i d) T (T + (((aL 10 0 0 i d).size : Int) + 20)))) (K1 c m t (BxP c.z c.n c.sm i t Tb rows)) (K2 c t) (sI c 0 t T) (sI c 1 t T)
def AQ (c : NC) (nb : Nat) (m id nn t i T sa : Int) (R : List ByteArray) (d : ByteArray) (Tb : TS) (rows : List ByteArray) : ab := NetG nb c.z c.n nn (K0 c m t (kA c id (i + 1) t (T + c.P) R)) (K1 c m t (BxP c.z c.n c.sm i t Tb rows)) (K2 c t) (sB c 0 t (T + c.P) (aL 10 0 0 i d) sa (sa + (((aL 10 0 0 i d).size : Int) + 20))) (sB c 1 t (T + c.P) (aL 10 0 1 i d) sa (sa + (((aL 10 0 1 i d).size : Int) + 20)))
theorem yO {c : NC} {A A' : Nat -> ab} (h : t <= a /\ 0 <= a /\ a <= 10000000) (hA : ∀ tx, Go.SLA.Sp prog 162 #[Pt tx 0, I a] (A tx) (.tuple #[Ns, I 0]) (A' tx)) (k : Nat) : Go.SLA.Sp prog 135 #[Pt k 0, I a] (K0 c m t A k) (.tuple #[Ns, I 0]) (K0 c m a A' k) := yN k c.z c.n 0 t a (some (I m)) none A _ A' h hA
theorem It {c : NC} (hc : NCH c) (nb : Nat) (m id nn t i T a : Int) (R : List ByteArray) (Tb : TS) (rows : List ByteArray) (h : t <= a /\ 0 <= a /\ a <= 10000000) (hf : R = [] \/ a < T) : Go.SLA.Sp prog 99 #[Pt nb 0, I a] (AR c nb m id nn t i T R Tb rows) (.tuple #[]) (AR c nb m id nn a i T R Tb rows) :=
 kv nb c.z c.n nn a _ _ _ _ _ _ _ _ _ _ (yO h (Cs hc h hf)) (wg h) (we h) (uY h) (uY h)
theorem IC {c : NC} (hc : NCH c) (nb : Nat) (m id nn t i T a : Int) (R : List ByteArray) (d : ByteArray) (Tb : TS) (rows : List ByteArray) (h : t <= a /\ 0 <= a /\ a <= 10000000) (hT : T <= a /\ a < T + 64) (hi : i <= 80) : Go.SLA.Sp prog 99 #[Pt nb 0, I a] (AR c nb m id nn t i T (d :: R) Tb rows) (.tuple #[]) (AS c nb m id nn a i T R d Tb rows) :=
 kv nb c.z c.n nn a _ _ _ _ _ _ _ _ _ _ (yO h (HW hc h hT hi)) (wg h) (we h) (uY h) (uY h)
theorem ID {c : NC} (hc : NCH c) (nb : Nat) (m id nn t i T a : Int) (R : List ByteArray) (d : ByteArray) (Tb : TS) (rows : List ByteArray) (h : t <= a /\ 0 <= a /\ a <= 10000000) (hx : a < T + (((aL 10 0 0 i d).size : Int) + 20)) : Go.SLA.Sp prog 99 #[Pt nb 0, I a] (AS c nb m id nn t i T R d Tb rows) (.tuple #[]) (AS c nb m id nn a i T R d Tb rows) :=
 kv nb c.z c.n nn a _ _ _ _ _ _ _ _ _ _ (yO h (HU hc h hx)) (wg h) (we h) (uY h) (uY h)
theorem IE {c : NC} (hc : NCH c) (nb : Nat) (m id nn t i T a : Int) (R : List ByteArray) (d : ByteArray) (Tb : TS) (rows : List ByteArray) (h : t <= a /\ 0 <= a /\ a <= 10000000) (hi : 0 <= i /\ i <= 200 /\ d.size <= 1000) (hz : (d.size : Int) + 19 <= c.sm) (hx : T + (((aL 10 0 0 i d).size : Int) + 20) <= a /\ a < T + (((aL 10 0 0 i d).size : Int) + 20) + 50) : Go.SLA.Sp prog 99 #[Pt nb 0, I a] (AS c nb m id nn t i T R d Tb rows) (.tuple #[]) (AQ c nb m id nn a i T a R d Tb rows) := by
 have hz0 := cB 10 0 0 i d
 have hz1 := cB 10 0 1 i d
 have hs := hc.s
 exact wa nb c.z c.n nn a _ _ _ _ _ _ _ _ _ _ _ _ _ _ _ _ (fun k => DU k c.z c.n 0 t a (some (I m)) none _ _ _ _ h (HV hc h ⟨hx.1, by omega⟩)) (wg h) (we h) (ES h (by omega) hi (by omega)) (ES h (by omega) hi (by omega)) (ER h.2.2 hi (by omega)) (ER h.2.2 hi (by omega))
theorem IB {c : NC} (hc : NCH c) (nb : Nat) (m id nn t i T sa a : Int) (R : List ByteArray) (d : ByteArray) (Tb : TS) (rows : List ByteArray) (h : t <= a /\ 0 <= a /\ a <= 10000000) (hx : a < sa + (((aL 10 0 0 i d).size : Int) + 20)) (hT : a < T + c.P) : Go.SLA.Sp prog 99 #[Pt nb 0, I a] (AQ c nb m id nn t i T sa R d Tb rows) (.tuple #[]) (AQ c nb m id nn a i T sa R d Tb rows) := by
 have hz0 := cB 10 0 0 i d
 have hz1 := cB 10 0 1 i d
 exact kv nb c.z c.n nn a _ _ _ _ _ _ _ _ _ _ (yO h (Cs hc h (.inr hT))) (wg h) (we h) (EU h hx) (EU h (by omega))
theorem Ik {c : NC} (hc : NCH c) {Tb : TS} (h : 0 <= a /\ a <= 10000000) (hi : 0 <= i /\ i <= 90 /\ d.size <= 1000) (hz : ((aL 10 0 1 i d).size : Int) <= c.sm) (k : Nat) : Go.SLA.Sp prog 138 #[Pt k 0, I a, I 1, .string (aL 10 0 1 i d)] (aa (K1 c m a (sR c.z c.n c.sm i a Tb rows) k) (gT c.z c.n)) (I 21) (aa (K1 c m a (BxP c.z c.n c.sm (i + 1) a Tb rows) k) (gT c.z c.n)) :=
 G2 k c.z c.n hc.n 0 a c.sm i none (some (I m)) (fun tx => TxN tx a) d Tb rows hz ⟨h.1, h⟩ hi
theorem Iu {c : NC} (hc : NCH c) (nb : Nat) (m id nn t i T sa a : Int) (R : List ByteArray) (d : ByteArray) (Tb Tb' : TS) (rows rows' : List ByteArray) (h : t <= a /\ 0 <= a /\ a <= 10000000) (hi : 0 <= i /\ i <= 90 /\ d.size <= 1000) (hz : (d.size : Int) + 19 <= c.sm) (hx : sa + (((aL 10 0 0 i d).size : Int) + 20) <= a) (hT : a < T + c.P)
  (hI : ∀ k, Go.SLA.Sp prog 138 #[Pt k 0, I a, I 0, .string (aL 10 0 0 i d)] (aa (K1 c m a (BxP c.z c.n c.sm i a Tb rows) k) (gT c.z c.n)) (I 0) (aa (K1 c m a (sR c.z c.n c.sm i a Tb' rows') k) (gT c.z c.n))) : Go.SLA.Sp prog 99 #[Pt nb 0, I a] (AQ c nb m id nn t i T sa R d Tb rows) (.tuple #[]) (AR c nb m id nn a (i + 1) (T + c.P) R Tb' rows') := by
 have hz0 := cB 10 0 0 i d
 have hz1 := cB 10 0 1 i d
 have hs := hc.s
 exact v9 nb c.z c.n nn a (K0 c m t (kA c id (i + 1) t (T + c.P) R)) (K1 c m t (BxP c.z c.n c.sm i t Tb rows)) (K2 c t) _ _ (K0 c m a (kA c id (i + 1) a (T + c.P) R)) (K1 c m a (BxP c.z c.n c.sm i a Tb rows)) (K1 c m a (sR c.z c.n c.sm i a Tb' rows')) (K1 c m a (BxP c.z c.n c.sm (i + 1) a Tb' rows')) (K2 c a) (sI c 0 a (T + c.P)) (sI c 1 a (T + c.P)) (aL 10 0 0 i d) (aL 10 0 1 i d) sa (sa + (((aL 10 0 0 i d).size : Int) + 20)) 0 21 (yO h (Cs hc h (.inr hT))) (wg h) (we h) (ET h hx) (Hz h (by omega) rfl (by omega)) hI (Ik hc h.2 hi (by omega))
end Sp
end
section
namespace Sp
open Mq
variable {j sm now t a : Int} {m d : ByteArray} {x : Pk} {k : Ky}
def eJ (sm : Int) : Int -> List ByteArray -> List ByteArray
 | _, [] => []
 | j, m :: l => dq j sm m ++ eJ sm (j + 1) l
def MsH (sm : Int) : Int -> List ByteArray -> Prop
 | _, [] => True
 | j, m :: l => bY j sm m /\ MsH sm (j + 1) l
inductive Prog (sm : Int) : Int -> List ByteArray -> List ByteArray -> TS -> Prop
 | at {j : Int} {rest : List ByteArray} (now : Int) (h : 0 <= now) : Prog sm j rest (eJ sm j rest) ⟨[], now, 0⟩
 | mid {j : Int} {m : ByteArray} {rest : List ByteArray} (a0 : Nat) (t now : Int) (h : 0 < a0 /\ a0 % 8 = 0 /\ a0 <= (wk j m).data.size) (ht : 0 <= t /\ t <= now) :
  Prog sm j (m :: rest) ((cW (wk j m) (sm.toNat - 39) (bD sm.toNat) a0).map iD ++ eJ sm (j + 1) rest) ⟨[⟨ay (wk j m), t, (wk j m).data.extract 0 a0⟩], now, 0⟩
theorem H6 (m : ByteArray) (hm : m.size <= 100) : Go.SLA.Sp prog 16 #[.agg qq33.toArray, .agg qq27.toArray, .string (e7 oC m)] emp (qq16 m) emp := Ay oC m wB oR (by omega)
theorem ur (h : bY j sm m) {a0 : Nat} (ha : a0 <= (wk j m).data.size) (hx : x ∈ cW (wk j m) (sm.toNat - 39) (bD sm.toNat) a0) : okPk x /\ fi x /\ (x.data.size : Int) + 39 <= sm := by
 obtain ⟨g1, g2, g3, g4⟩ := ss (ne h)
 unfold iH at g1
 have hr := lw (m := sm.toNat) (by omega)
 have hpart := mN (p := wk j m) (w := sm.toNat - 39) (by omega) hr.2.1 g4 a0 ha x hx
 refine ⟨rR (Bk h) (m := sm.toNat) (by omega) hpart, mU (oQ h) (m := sm.toNat) hpart, ?_⟩
 have := hpart.1
 omega
theorem Be (h1 : okPk x) (h2 : fi x) (h3 : x.data.size <= 1000) : Go.SLA.Sp prog 14 #[.string (iD x ++ fL (45 - (iD x).size))] emp (.tuple #[.agg (ef x).toArray, I 0]) emp := D4 x (fL (45 - (iD x).size)) h1 h2 (by omega) (by rw [eS]; omega)
theorem zo (h : 0 <= now /\ now <= 10000000) (ht : 0 <= t /\ t <= now) (hd : d.size <= 8200) : TOk 1 ⟨[⟨k, t, d⟩], now, 0⟩ :=
 ⟨⟨h.1, by (dsimp only; omega)⟩, fun b hb => by rw [List.mem_singleton.1 hb]; exact ⟨⟨ht.1, by (dsimp only; omega)⟩, hd⟩, by simp [aA], Int.le_refl _, by simp⟩
theorem wF (h : 0 <= now /\ now <= 10000000) : TOk 1 ⟨[], now, 0⟩ := ⟨⟨h.1, by (dsimp only; omega)⟩, fun b hb => (by cases hb), List.nodup_nil, Int.le_refl _, by simp⟩
theorem wV (now a : Int) : TS.pass ⟨[], now, 0⟩ 1099511627776 a = ⟨[], a, 0⟩ := nM (fun b hb => by cases hb)
theorem BA (h : 0 <= t /\ a <= 10000000) : TS.pass ⟨[⟨k, t, d⟩], now, 0⟩ 1099511627776 a = ⟨[⟨k, t, d⟩], a, 0⟩ := nM (fun b hb => by rw [List.mem_singleton.1 hb]; dsimp only; omega)
theorem Bq {s : ByteArray} {rest S : List ByteArray} {Tb : TS} (hM : bY j sm m) (a0 : Nat) (h8 : a0 % 8 = 0 /\ a0 <= (wk j m).data.size) (hS : (cW (wk j m) (sm.toNat - 39) (bD sm.toNat) a0).map iD ++ eJ sm (j + 1) rest = s :: S)
  (hn : 0 <= Tb.now /\ Tb.now <= a /\ a <= 10000000) (hT : (a0 = 0 /\ Tb = ⟨[], Tb.now, 0⟩) \/ (0 < a0 /\ ∃ t, (0 <= t /\ t <= Tb.now) /\ Tb = ⟨[⟨ay (wk j m), t, (wk j m).data.extract 0 a0⟩], Tb.now, 0⟩)) : ∃ (pid po : Int) (pm : Bool) (pd : ByteArray) (Tb' : TS), (Go.SLA.Sp prog 14 #[.string (s ++ fL (45 - s.size))] emp (.tuple #[.agg [I pid, .bool pm, I po, I 1, I 17, U8 10, U8 0, U8 0, U8 0, U8 224, U8 224, U8 0, U8 10, .string pd].toArray, I 0]) emp) /\ Tb'.now = a /\ (((∀ tp : Nat, Go.SLA.Sp prog 15 #[Pt tp 0, I a, .agg [I pid, .bool pm, I po, I 1, I 17, U8 10, U8 0, U8 0, U8 0, U8 224, U8 224, U8 0, U8 10, .string pd].toArray] (TabP tp 64 1099511627776 Tb) (.tuple #[.agg [I pid, Ff, I 0, I 1, I 17, U8 10, U8 0, U8 0, U8 0, U8 224, U8 224, U8 0, U8 10, .string (e7 oC m)].toArray, Tt, I 0]) (TabP tp 64 1099511627776 Tb')) /\ Prog sm (j + 1) rest S Tb') \/ ((∀ tp : Nat, Go.SLA.Sp prog 15 #[Pt tp 0, I a, .agg [I pid, .bool pm, I po, I 1, I 17, U8 10, U8 0, U8 0, U8 0, U8 224, U8 224, U8 0, U8 10, .string pd].toArray] (TabP tp 64 1099511627776 Tb) (.tuple #[.agg [I 0, Ff, I 0, I 0, I 0, U8 0, U8 0, U8 0, U8 0, U8 0, U8 0, U8 0, U8 0, Z].toArray, Ff, I 0]) (TabP tp 64 1099511627776 Tb')) /\ Prog sm j (m :: rest) S Tb')) := by
 have hds : (wk j m).data.size = 8 + m.size := gw oC m
 have hMM := hM
 unfold bY at hMM
 have hr := lw (m := sm.toNat) (by omega)
 have ht : pL Tb.now a = 0 := Hq hn.2.1 (by omega)
 by_cases hc : a0 + (sm.toNat - 39) < (wk j m).data.size
 ·rw [jJ hc (by omega), List.map_cons, List.cons_append] at hS
  obtain ⟨rfl, rfl⟩ := List.cons.inj hS
  have hx : iu (wk j m) a0 (a0 + bD sm.toNat) ∈ cW (wk j m) (sm.toNat - 39) (bD sm.toNat) a0 := by rw [jJ hc (by omega)]; exact List.mem_cons_self ..
  obtain ⟨o1, o2, o3⟩ := ur hM h8.2 hx
  have hps := mr (wk j m) a0 (a0 + bD sm.toNat) (by omega)
  have hxm : (iu (wk j m) a0 (a0 + bD sm.toNat)).more = true := decide_eq_true (by omega)
  have hsn : gV (iu (wk j m) a0 (a0 + bD sm.toNat)) a0 = 0 := by
   unfold gV
   rw [if_neg (by rintro (g | g); omega; exact g rfl), if_neg (by rintro ⟨_, g⟩; rw [hps] at g; omega), if_neg (by rw [hps]; omega)]
  rcases hT with ⟨rfl, hT⟩ | ⟨ha, t, htt, hT⟩
  ·refine ⟨j, _, _, _, ⟨[⟨ay (wk j m), a, (wk j m).data.extract 0 (0 + bD sm.toNat)⟩], a, 0⟩, Be o1 o2 (by omega), rfl, .inr ⟨fun tp => ?_, ?_⟩⟩
   ·have hb : (TS.pass Tb 1099511627776 a).begn 64 (iu (wk j m) 0 (0 + bD sm.toNat)) = (0, ⟨[⟨ay (wk j m), a, (wk j m).data.extract 0 (0 + bD sm.toNat)⟩], a, 0⟩) := by
     rw [hT, wV]
     have hfr : TS.free ⟨[], a, 0⟩ (ay (iu (wk j m) 0 (0 + bD sm.toNat))) = ⟨[], a, 0⟩ := if_neg (fun h => by cases h)
     rw [uJ hsn (by rw [hfr]; show ¬ (64 : Int) <= ((0 : Nat) : Int); decide), hfr]
     rfl
    have := v8 tp 64 1099511627776 Tb a (iu (wk j m) 0 (0 + bD sm.toNat)) ht 1 (by rw [hT]; exact wF ⟨hn.1, by omega⟩) (by decide) (by decide) (by omega) rfl hxm (by rw [hT, wV]; exact wF ⟨by omega, hn.2.2⟩)
    rw [hb] at this
    exact this
   ·exact Prog.mid (0 + bD sm.toNat) a a ⟨by omega, by omega, by omega⟩ ⟨by omega, Int.le_refl _⟩
  ·have hes : ((wk j m).data.extract 0 a0).size = a0 := by rw [ByteArray.size_extract]; omega
   refine ⟨j, _, _, _, ⟨[⟨ay (wk j m), t, (wk j m).data.extract 0 (a0 + bD sm.toNat)⟩], a, 0⟩, Be o1 o2 (by omega), rfl, .inr ⟨fun tp => ?_, ?_⟩⟩
   ·have hpa : TS.pass Tb 1099511627776 a = ⟨[⟨ay (wk j m), t, (wk j m).data.extract 0 a0⟩], a, 0⟩ := by rw [hT]; exact BA ⟨htt.1, hn.2.2⟩
    have hok : TOk 1 (⟨[⟨ay (wk j m), t, (wk j m).data.extract 0 a0⟩], a, 0⟩ : TS) := zo ⟨by omega, hn.2.2⟩ ⟨htt.1, by omega⟩ (by omega)
    have := yv tp 64 1099511627776 Tb a (iu (wk j m) a0 (a0 + bD sm.toNat)) ht 1 (by rw [hT]; exact zo ⟨hn.1, by omega⟩ ⟨htt.1, htt.2⟩ (by omega)) (by decide) (by decide) (by omega) (by show ((a0 / 8 : Nat) : Int) ≠ 0; omega) ⟨ay (wk j m), t, (wk j m).data.extract 0 a0⟩ (by rw [hpa]; unfold pj; rw [List.find?_cons_of_pos]; exact decide_eq_true rfl) (by rw [hpa]; exact hok) (by rw [hes]; exact hsn) hxm
    rw [hpa] at this
    have hu : upd [⟨ay (wk j m), t, (wk j m).data.extract 0 a0⟩] (ay (iu (wk j m) a0 (a0 + bD sm.toNat))) (iu (wk j m) a0 (a0 + bD sm.toNat)).data = [⟨ay (wk j m), t, (wk j m).data.extract 0 (a0 + bD sm.toNat)⟩] := by
     unfold upd
     rw [List.map_cons, List.map_nil]
     show [(if ay (wk j m) = ay (wk j m) then (⟨ay (wk j m), t, (wk j m).data.extract 0 a0 ++ (wk j m).data.extract a0 (a0 + bD sm.toNat)⟩ : Bg) else _)] = _
     rw [if_pos rfl, uE _ _ _ (by omega)]
    dsimp only at this
    rw [hu] at this
    exact this
   ·exact Prog.mid (a0 + bD sm.toNat) t a ⟨by omega, by omega, by omega⟩ ⟨htt.1, by omega⟩
 ·rw [iF hc, List.map_cons, List.map_nil, List.singleton_append] at hS
  obtain ⟨rfl, rfl⟩ := List.cons.inj hS
  have hx : iu (wk j m) a0 (wk j m).data.size ∈ cW (wk j m) (sm.toNat - 39) (bD sm.toNat) a0 := by rw [iF hc]; exact List.mem_cons_self ..
  obtain ⟨o1, o2, o3⟩ := ur hM h8.2 hx
  have hps := mr (wk j m) a0 (wk j m).data.size (Nat.le_refl _)
  have hxm : (iu (wk j m) a0 (wk j m).data.size).more = false := decide_eq_false (by omega)
  have hsn : gV (iu (wk j m) a0 (wk j m).data.size) a0 = 0 := by
   unfold gV
   rw [if_neg (by rintro (g | g); omega; exact g rfl), if_neg (by rintro ⟨g, _⟩; rw [hxm] at g; cases g), if_neg (by rw [hps]; omega)]
  rcases hT with ⟨rfl, hT⟩ | ⟨ha, t, htt, hT⟩
  ·refine ⟨j, _, _, _, ⟨[], a, 0⟩, Be o1 o2 (by omega), rfl, .inl ⟨fun tp => ?_, Prog.at a (by omega)⟩⟩
   have := v7 tp 64 1099511627776 Tb a (iu (wk j m) 0 (wk j m).data.size) ht 1 (by rw [hT]; exact wF ⟨hn.1, by omega⟩) (by decide) (by decide) (by omega) rfl hxm
   rw [hT, wV] at this
   have e : (iu (wk j m) 0 (wk j m).data.size).data = e7 oC m := uF (e7 oC m)
   rw [hxm, e] at this
   rw [hxm, e, hT]
   exact this
  ·have hes : ((wk j m).data.extract 0 a0).size = a0 := by rw [ByteArray.size_extract]; omega
   refine ⟨j, _, _, _, ⟨[], a, 0⟩, Be o1 o2 (by omega), rfl, .inl ⟨fun tp => ?_, Prog.at a (by omega)⟩⟩
   have hpa : TS.pass Tb 1099511627776 a = ⟨[⟨ay (wk j m), t, (wk j m).data.extract 0 a0⟩], a, 0⟩ := by rw [hT]; exact BA ⟨htt.1, hn.2.2⟩
   have hok : TOk 1 (⟨[⟨ay (wk j m), t, (wk j m).data.extract 0 a0⟩], a, 0⟩ : TS) := zo ⟨by omega, hn.2.2⟩ ⟨htt.1, by omega⟩ (by omega)
   have := yw tp 64 1099511627776 Tb a (iu (wk j m) a0 (wk j m).data.size) ht 1 (by rw [hT]; exact zo ⟨hn.1, by omega⟩ ⟨htt.1, htt.2⟩ (by omega)) (by decide) (by decide) (by omega) (by show ((a0 / 8 : Nat) : Int) ≠ 0; omega) ⟨ay (wk j m), t, (wk j m).data.extract 0 a0⟩ (by rw [hpa]; unfold pj; rw [List.find?_cons_of_pos]; exact decide_eq_true rfl) (by rw [hpa]; exact hok) (by rw [hes]; exact hsn) hxm
   rw [hpa] at this
   have hw : mM [(⟨ay (wk j m), t, (wk j m).data.extract 0 a0⟩ : Bg)] (ay (iu (wk j m) a0 (wk j m).data.size)) = [] := by
    unfold mM
    rw [List.filter_cons, if_neg (by rw [show ay (iu (wk j m) a0 (wk j m).data.size) = ay (wk j m) from rfl]; simp)]
    rfl
   have e : (wk j m).data.extract 0 a0 ++ (iu (wk j m) a0 (wk j m).data.size).data = e7 oC m := (uE _ _ _ h8.2).trans (uF (e7 oC m))
   dsimp only at this
   rw [hw, e] at this
   rw [hxm] at this ⊢
   exact this
theorem Prog.step {j sm a : Int} {s : ByteArray} {rs S : List ByteArray} {Tb : TS} (h : Prog sm j rs (s :: S) Tb) (hM : MsH sm j rs) (hn : Tb.now <= a /\ a <= 10000000) :
  ∃ m rest, rs = m :: rest /\ bY j sm m /\ MsH sm (j + 1) rest /\ ∃ (pid po : Int) (pm : Bool) (pd : ByteArray) (Tb' : TS), (Go.SLA.Sp prog 14 #[.string (s ++ fL (45 - s.size))] emp (.tuple #[.agg [I pid, .bool pm, I po, I 1, I 17, U8 10, U8 0, U8 0, U8 0, U8 224, U8 224, U8 0, U8 10, .string pd].toArray, I 0]) emp) /\ Tb'.now = a /\ (((∀ tp : Nat, Go.SLA.Sp prog 15 #[Pt tp 0, I a, .agg [I pid, .bool pm, I po, I 1, I 17, U8 10, U8 0, U8 0, U8 0, U8 224, U8 224, U8 0, U8 10, .string pd].toArray] (TabP tp 64 1099511627776 Tb) (.tuple #[.agg [I pid, Ff, I 0, I 1, I 17, U8 10, U8 0, U8 0, U8 0, U8 224, U8 224, U8 0, U8 10, .string (e7 oC m)].toArray, Tt, I 0]) (TabP tp 64 1099511627776 Tb')) /\ Prog sm (j + 1) rest S Tb') \/ ((∀ tp : Nat, Go.SLA.Sp prog 15 #[Pt tp 0, I a, .agg [I pid, .bool pm, I po, I 1, I 17, U8 10, U8 0, U8 0, U8 0, U8 224, U8 224, U8 0, U8 10, .string pd].toArray] (TabP tp 64 1099511627776 Tb) qq9 (TabP tp 64 1099511627776 Tb')) /\ Prog sm j (m :: rest) S Tb')) := by
 generalize hq : s :: S = q at h
 cases h with
 | «at» now h0 =>
  cases rs with
  | nil => cases hq
  | cons m rest =>
   refine ⟨m, rest, rfl, hM.1, hM.2, Bq hM.1 0 ⟨rfl, Nat.zero_le _⟩ ?_ ⟨h0, hn⟩ (.inl ⟨rfl, rfl⟩)⟩
   rw [hq, <- s7 hM.1]
   rfl
 | mid a0 t now h1 h2 =>
  exact ⟨_, _, rfl, hM.1, hM.2, Bq hM.1 a0 ⟨h1.2.1, h1.2.2⟩ hq.symm ⟨by (dsimp only; omega), hn⟩ (.inr ⟨h1.1, t, h2, rfl⟩)⟩
end Sp
end
section
namespace Sp
open Mq
theorem BX {X : Type} (nb : Nat) (z : CfA) (n : Nat) (nn now : Int) (C0 C1 C2 U V : X -> Nat -> ab) (Inv : Int -> X -> Prop) (x0 : X) (h : 0 <= nn /\ nn <= now /\ now <= 10000000) (h0 : Inv (nn - nn % 50) x0) (hs : ∀ (a : Int) (x : X), a % 50 = 0 -> 50 <= a -> a <= now -> nn < a -> Inv (a - 50) x -> FSpec prog 99 #[Pt nb 0, I a] (NetG nb z n nn (C0 x) (C1 x) (C2 x) (U x) (V x)) (fun x => Inv a x) (fun _ => .tuple #[]) (fun x => NetG nb z n nn (C0 x) (C1 x) (C2 x) (U x) (V x))) : FSpec prog 60 #[Pt nb 0, I now] (NetG nb z n nn (C0 x0) (C1 x0) (C2 x0) (U x0) (V x0)) (fun x : X => Inv (now - now % 50) x) (fun x => I 0) (fun x => NetG nb z n now (C0 x) (C1 x) (C2 x) (U x) (V x)) := by
 refine en func60 r fun _ F=>gh fun v =>aE r<|js<|jb<|sa r<|lv ((bj r r).as (v' := Ff) r) r<|an r<|cf r<|sa r<|bJ r<|ea r<|go r<|ea r<|go r<|bJ r<|bf r<|sr<|ec r<|fz r<|ld r r<|bJ r<|an r<|cf r<|cY<|js<|js<|dM ae<|qb r<|qz r<|ql r r<|qb r<|qz r<|ql r r<|qv (fu r r (by omega)) r<|qv (bm r r (by omega)) r<|ww r<|qa r<|qn<|kt<|jb ?_
 refine bX (X := Int × X) (fun y => [(0, Pt nb 0), (1, I now), (5, I y.1)]) (fun y => (aa (NetG nb z n nn (C0 y.2) (C1 y.2) (C2 y.2) (U y.2) (V y.2)) (F))) (fun y => y.1 % 50 = 0 /\ 50 <= y.1 /\ y.1 <= now + 50 /\ nn < y.1 /\ Inv (y.1 - 50) y.2) (fun y => (now + 50 - y.1).toNat) ((nn - nn % 50 + 50, x0)) ⟨by dsimp only; omega, by dsimp only; omega, by dsimp only; omega, by dsimp only; omega, by dsimp only; rw [show nn - nn % 50 + 50 - 50 = nn - nn % 50 by omega]; exact h0⟩ ⟨rfl, rfl, rfl, trivial⟩ (Ent.frame (NetG.fold (C0 := C0 x0) (C1 := C1 x0) (C2 := C2 x0) (U := U x0) (V := V x0) v) _) (fun y hy => ?_)
 obtain ⟨hy1, hy2, hy3, hy4, hy5⟩ := hy
 rcases (show y.1 <= now \/ now < y.1 by omega) with hle | hle
 ·refine js<|sb r<|lv ((fh r r).bool_t hle) r<|nt r<|sk<|js<|jb<|jg<|eb r<|lx r (ai (hs y.1 y.2 hy1 hy2 hle hy4 hy5) r r r) fun x1 hx1=>ln<|kb<|kt<|jg<|ea r<|gE r ?_
  refine ea r<|ln ?_
  exact bO ((y.1 + 50, x1)) ⟨by dsimp only; omega, by dsimp only; omega, by dsimp only; omega, by dsimp only; omega, by dsimp only; rw [show y.1 + 50 - 50 = y.1 by omega]; exact hx1⟩ (by dsimp only; omega) ⟨rfl, rfl, rfl, trivial⟩ (ah _)
 ·refine js<|sb r<|bJ r<|nf r ?_
  refine cx<|ke<|ke<|kh<|kt<|js<|gh fun v2 =>jg<|ec r<|fz r<|so r r<|nr<|an r<|jr ?_
  exact aD rfl rfl y.2 (by rw [show now - now % 50 = y.1 - 50 by omega]; exact hy5) rfl (Ent.trans (Ent.take (Q := (aa ((aa (am nb [I 3, Sk z.pb z.po 3 z.pc, I 1000, Sk z.wb z.wo 3 z.wc, z.vl, Sk z.rb z.ro (bL n) z.rc, Sk v2.kb v2.ko 3 v2.kc, Pt v2.w0 0, Pt v2.w1 0, Mp v2.fm, Mp v2.sm, Ns, I now] 142) (aa (Ow 145 1 (Sk v2.kb v2.ko 3 v2.kc) 3 [Pt v2.k0 0, Pt v2.k1 0, Pt v2.k2 0]) (aa (eX v2.fm [.int .i64, .int .i64, .int .i64] (fun _ => none)) (aa (mapc v2.sm .i64 v2.cS) (aa (C0 y.2 v2.k0) (aa (C1 y.2 v2.k1) (aa (C2 y.2 v2.k2) (aa (U y.2 v2.w0) (aa (V y.2 v2.w1) (gT z n))))))))))) (F)))) (Ent.frame (NetG.fold (C0 := C0 y.2) (C1 := C1 y.2) (C2 := C2 y.2) (U := U y.2) (V := V y.2) v2) _))
end Sp
end
section
namespace Sp
open Mq
variable {c : NC} {ms S rest : List ByteArray} {M T0 m id sm j : Int} {Tb : TS} {nb : Nat}
inductive NS where
 | q (t i T : Int) (R : List ByteArray) (Tb : TS) (rows : List ByteArray)
 | l (t i T : Int) (R : List ByteArray) (d : ByteArray) (Tb : TS) (rows : List ByteArray)
 | w (t i T sa : Int) (R : List ByteArray) (d : ByteArray) (Tb : TS) (rows : List ByteArray)
def fC0 (c : NC) (m id : Int) : NS -> Nat -> ab
 | .q t i T R _ _ => K0 c m t (kA c id i t T R)
 | .l t i T R d _ _ => K0 c m t (kL c id (i + 1) t (T + c.P) R i (aL 10 0 0 i d) (aL 10 0 1 i d) T (T + (((aL 10 0 0 i d).size : Int) + 20)))
 | .w t i T _ R _ _ _ => K0 c m t (kA c id (i + 1) t (T + c.P) R)
def fC1 (c : NC) (m : Int) : NS -> Nat -> ab
 | .q t i _ _ Tb rows => K1 c m t (BxP c.z c.n c.sm i t Tb rows)
 | .l t i _ _ _ Tb rows => K1 c m t (BxP c.z c.n c.sm i t Tb rows)
 | .w t i _ _ _ _ Tb rows => K1 c m t (BxP c.z c.n c.sm i t Tb rows)
def fC2 (c : NC) : NS -> Nat -> ab
 | .q t _ _ _ _ _ => K2 c t
 | .l t _ _ _ _ _ _ => K2 c t
 | .w t _ _ _ _ _ _ _ => K2 c t
def fU (c : NC) : NS -> Nat -> ab
 | .q t _ T _ _ _ => sI c 0 t T
 | .l t _ T _ _ _ _ => sI c 0 t T
 | .w t i T sa _ d _ _ => sB c 0 t (T + c.P) (aL 10 0 0 i d) sa (sa + (((aL 10 0 0 i d).size : Int) + 20))
def fV (c : NC) : NS -> Nat -> ab
 | .q t _ T _ _ _ => sI c 1 t T
 | .l t _ T _ _ _ _ => sI c 1 t T
 | .w t i T sa _ d _ _ => sB c 1 t (T + c.P) (aL 10 0 1 i d) sa (sa + (((aL 10 0 1 i d).size : Int) + 20))
def NS.t (x : NS) : Int := match x with
 | .q t _ _ _ _ _ => t
 | .l t _ _ _ _ _ _ => t
 | .w t _ _ _ _ _ _ _ => t
def eu (c : NC) (nb : Nat) (m id nn : Int) (x : NS) : ab := NetG nb c.z c.n nn (fC0 c m id x) (fC1 c m x) (fC2 c x) (fU c x) (fV c x)
structure Bas (c : NC) (ms : List ByteArray) (M T0 a t i T : Int) (S : List ByteArray) (Tb : TS) (rows : List ByteArray) : Prop where
 tt : t < a + 50
 ii : 0 <= i /\ i + S.length <= M /\ M <= 30
 t0 : 0 <= T0 /\ T0 <= 1000 /\ T = T0 + i * c.P
 pr : ∃ rest, ms = rows ++ rest /\ Prog c.sm rows.length rest S Tb /\ MsH c.sm rows.length rest
 tb : Tb.now < a + 50
 ds : ∀ d, d ∈ S -> d.size <= 1000 /\ (d.size : Int) + 19 <= c.sm
 mm : ms.length <= 8
def Inv (c : NC) (ms : List ByteArray) (M T0 a : Int) : NS -> Prop
 | .q t i T R Tb rows => Bas c ms M T0 a t i T R Tb rows /\ (R = [] \/ a < T)
 | .l t i T R d Tb rows => Bas c ms M T0 a t i T (d :: R) Tb rows /\ a < T + (((aL 10 0 0 i d).size : Int) + 20)
 | .w t i T sa R d Tb rows => Bas c ms M T0 a t i T (d :: R) Tb rows /\ (T + 80 <= sa /\ sa < T + (((aL 10 0 0 i d).size : Int) + 20) + 50) /\ a < sa + (((aL 10 0 0 i d).size : Int) + 20)
theorem Bas.go {a a' t i T : Int} {rows : List ByteArray} (h : Bas c ms M T0 a t i T S Tb rows) (ha : a' = a + 50) : Bas c ms M T0 a' a' i T S Tb rows :=
 { h with tt := by omega, tb := by have := h.tb; omega }
theorem ie {f : FuncId} {args : Array Value} {X : Type} {φ : X -> Prop} {P : ab} {v : Value} {Q : X -> ab} (x : X) (hx : φ x) (k : Go.SLA.Sp prog f args P v (Q x)) : FSpec prog f args P φ (fun _ => v) Q := k.conseq (ah _) fun _ _ => ⟨x, hx, rfl, ah _⟩
theorem EI (hc : NCH c) {nn : Int} (a : Int) (x : NS) (h : 50 <= a /\ a <= 10000000) (hx : Inv c ms M T0 (a - 50) x) : FSpec prog 99 #[Pt nb 0, I a] (eu c nb m id nn x) (fun x' => Inv c ms M T0 a x' /\ x'.t = a) (fun _ => .tuple #[]) (fun x' => eu c nb m id nn x') := by
 have hs := hc.s
 have hbp := hc.bp
 have hP : 12500 <= c.P /\ c.P <= 25000 := by omega
 cases x with
 | q t i T R Tb rows =>
  obtain ⟨hb, hR⟩ := hx
  have h1 := hb.tt
  have h2 := hb.ii
  have h3 := hb.t0
  have ht : t <= a /\ 0 <= a /\ a <= 10000000 := by omega
  cases R with
  | nil => exact ie (.q a i T [] Tb rows) ⟨⟨hb.go (by omega), .inl rfl⟩, rfl⟩ (It hc nb m id nn t i T a [] Tb rows ht (.inl rfl))
  | cons d R =>
   have hT : a - 50 < T := hR.resolve_left (by simp)
   rcases Int.lt_or_le a T with g | g
   ·exact ie (.q a i T (d :: R) Tb rows) ⟨⟨hb.go (by omega), .inr g⟩, rfl⟩ (It hc nb m id nn t i T a (d :: R) Tb rows ht (.inr g))
   ·have hz := cB 10 0 0 i d
    exact ie (.l a i T R d Tb rows) ⟨⟨hb.go (by omega), by omega⟩, rfl⟩ (IC hc nb m id nn t i T a R d Tb rows ht (by omega) (by omega))
 | l t i T R d Tb rows =>
  obtain ⟨hb, hx⟩ := hx
  have h1 := hb.tt
  have h2 := hb.ii
  have h3 := hb.t0
  have hd := hb.ds d (List.mem_cons_self ..)
  have ht : t <= a /\ 0 <= a /\ a <= 10000000 := by omega
  rcases Int.lt_or_le a (T + (((aL 10 0 0 i d).size : Int) + 20)) with g | g
  ·exact ie (.l a i T R d Tb rows) ⟨⟨hb.go (by omega), g⟩, rfl⟩ (ID hc nb m id nn t i T a R d Tb rows ht g)
  ·have hz := cB 10 0 0 i d
   exact ie (.w a i T a R d Tb rows) ⟨⟨hb.go (by omega), ⟨by omega, by omega⟩, by omega⟩, rfl⟩ (IE hc nb m id nn t i T a R d Tb rows ht (by omega) hd.2 (by omega))
 | w t i T sa R d Tb rows =>
  obtain ⟨hb, hsa, hx⟩ := hx
  have h1 := hb.tt
  have h2 := hb.ii
  have h3 := hb.t0
  have h4 := hb.tb
  have hd := hb.ds d (List.mem_cons_self ..)
  have hz := cB 10 0 0 i d
  have ht : t <= a /\ 0 <= a /\ a <= 10000000 := by omega
  have hl : ((d :: R).length : Int) = (R.length : Int) + 1 := by simp
  rcases Int.lt_or_le a (sa + (((aL 10 0 0 i d).size : Int) + 20)) with g | g
  ·exact ie (.w a i T sa R d Tb rows) ⟨⟨hb.go (by omega), hsa, g⟩, rfl⟩ (IB hc nb m id nn t i T sa a R d Tb rows ht g (by omega))
  ·obtain ⟨rest, hms, hpr, hmh⟩ := hb.pr
   obtain ⟨mm, rest', rfl, hm1, hm2, pid, po, pm, pd, Tb', hD, hTb, hst⟩ := hpr.step (a := a) hmh (by omega)
   have hrl : rows.length + (mm :: rest').length = ms.length := by rw [hms, List.length_append]
   have hmm := hb.mm
   have hTn : T + c.P = T0 + (i + 1) * c.P := by rw [h3.2.2, Int.add_mul, Int.one_mul]; omega
   have bas : ∀ rows', (∃ rest, ms = rows' ++ rest /\ Prog c.sm rows'.length rest R Tb' /\ MsH c.sm rows'.length rest) -> Inv c ms M T0 a (.q a (i + 1) (T + c.P) R Tb' rows') := fun rows' hr =>
    ⟨⟨by omega, by omega, ⟨h3.1, h3.2.1, hTn⟩, hr, by omega, fun e he => hb.ds e (List.mem_cons_of_mem _ he), hmm⟩, .inr (by omega)⟩
   rcases hst with ⟨hP, hpr'⟩ | ⟨hP, hpr'⟩
   ·have hml : mm.size <= 100 := by unfold bY at hm1; omega
    refine ie (.q a (i + 1) (T + c.P) R Tb' (rows ++ [mm])) ⟨bas _ ⟨rest', by rw [hms]; simp, ?_⟩, rfl⟩ (Iu hc nb m id nn t i T sa a R d Tb Tb' rows (rows ++ [mm]) ht (by omega) hd.2 g (by omega) fun k => ?_)
    ·rw [show (((rows ++ [mm]).length : Nat) : Int) = (rows.length : Int) + 1 by simp]
     exact ⟨hpr', hm2⟩
    ·exact G1 k c.z c.n hc.n a a c.sm i none (some (I m)) (fun tx => TxN tx a) d Tb Tb' rows (by simp at hrl; omega) pid po pm pd (e7 oC mm) mm (by omega) ⟨Int.le_refl _, by omega, by omega⟩ (by omega) hD hP hml (H6 mm hml)
   ·refine ie (.q a (i + 1) (T + c.P) R Tb' rows) ⟨bas _ ⟨mm :: rest', hms, hpr', hmh⟩, rfl⟩ (Iu hc nb m id nn t i T sa a R d Tb Tb' rows rows ht (by omega) hd.2 g (by omega) fun k => ?_)
    exact G3 k c.z c.n hc.n a a c.sm i none (some (I m)) (fun tx => TxN tx a) d Tb Tb' rows pid po pm pd (by omega) ⟨Int.le_refl _, by omega, by omega⟩ (by omega) hD hP
theorem wT (h : eJ sm j rest = []) (hm : MsH sm j rest) : rest = [] := by
 cases rest with
 | nil => rfl
 | cons m l =>
  have := eT hm.1
  have h2 := congrArg List.length h
  simp only [eJ, List.length_append, List.length_nil] at h2
  omega
theorem Prog.done' (h : Prog sm j rest S Tb) (hm : MsH sm j rest) (hq : S = []) : rest = [] := by
 cases h with
 | «at» now h0 => exact wT hq hm
 | mid a0 t now h1 h2 =>
  have := congrArg List.length hq
  rw [List.length_append, List.length_map, cW] at this
  split at this <;> (simp at this; try omega)
theorem Prog.done (h : Prog sm j rest [] Tb) (hm : MsH sm j rest) : rest = [] := h.done' hm rfl
theorem Inv.done {c : NC} (hc : NCH c) {ms : List ByteArray} {M T0 a : Int} {x : NS} (h : Inv c ms M T0 a x) (ha : T0 + (M - 1) * c.P + 2 * c.sm + 90 <= a) : ∃ t i T Tb, x = .q t i T [] Tb ms := by
 have hs := hc.s
 have hbp := hc.bp
 have hP : 12500 <= c.P := by omega
 have key : ∀ i : Int, i <= M - 1 -> i * c.P <= (M - 1) * c.P := fun i hi => Int.mul_le_mul_of_nonneg_right hi (by omega)
 cases x with
 | q t i T R Tb rows =>
  obtain ⟨hb, hR⟩ := h
  have h2 := hb.ii
  have h3 := hb.t0
  cases R with
  | nil =>
   obtain ⟨rest, hms, hpr, hmh⟩ := hb.pr
   obtain rfl := hpr.done hmh
   rw [List.append_nil] at hms
   exact ⟨t, i, T, Tb, by rw [hms]⟩
  | cons d R =>
   have hT : a < T := hR.resolve_left (by simp)
   have hl : ((d :: R).length : Int) = (R.length : Int) + 1 := by simp
   have := key i (by omega)
   omega
 | l t i T R d Tb rows =>
  obtain ⟨hb, hx⟩ := h
  have h2 := hb.ii
  have h3 := hb.t0
  have hd := hb.ds d (List.mem_cons_self ..)
  have hz := cB 10 0 0 i d
  have hl : ((d :: R).length : Int) = (R.length : Int) + 1 := by simp
  have := key i (by omega)
  omega
 | w t i T sa R d Tb rows =>
  obtain ⟨hb, hsa, hx⟩ := h
  have h2 := hb.ii
  have h3 := hb.t0
  have hd := hb.ds d (List.mem_cons_self ..)
  have hz := cB 10 0 0 i d
  have hl : ((d :: R).length : Int) = (R.length : Int) + 1 := by simp
  have := key i (by omega)
  omega
theorem yA (hc : NCH c) (nn now : Int) (x : NS) (h : 0 <= nn /\ nn <= now /\ now <= 10000000) (hx : Inv c ms M T0 (nn - nn % 50) x /\ x.t <= nn) : FSpec prog 60 #[Pt nb 0, I now] (eu c nb m id nn x) (fun x' => Inv c ms M T0 (now - now % 50) x' /\ x'.t <= now) (fun _ => I 0) (fun x' => eu c nb m id now x') :=
 (BX nb c.z c.n nn now (fC0 c m id) (fC1 c m) (fC2 c) (fU c) (fV c) (fun a x => Inv c ms M T0 a x /\ (x.t <= nn \/ x.t <= a)) x h ⟨hx.1, .inl hx.2⟩ fun a x _ h1 h2 _ hi => (EI hc a x ⟨h1, by omega⟩ hi.1).conseq (ah _) fun x' hx' => ⟨x', ⟨hx'.1, .inr (Int.le_of_eq hx'.2)⟩, rfl, ah _⟩).conseq (ah _) fun x' hx' => ⟨x', ⟨hx'.1, by omega⟩, rfl, ah _⟩
end Sp
end
section
namespace Sp
open Mq
variable {X : Type} {φ : X -> Prop}
theorem AU (nb : Nat) (z : CfA) (n : Nat) (now : Int) (N : ab) (C0 C1 C2 U V : X -> Nat -> ab) (hP : FSpec prog 60 #[Pt nb 0, I now] N φ (fun _ => I 0) (fun x => NetG nb z n now (C0 x) (C1 x) (C2 x) (U x) (V x))) : FSpec prog 63 #[Pt nb 0, I now, I 0] (N) (fun r : X × NtV => φ r.1) (fun r => .tuple #[Pt r.2.k0 0, I 0]) (fun r => (aa (am nb [I 3, Sk z.pb z.po 3 z.pc, I 1000, Sk z.wb z.wo 3 z.wc, z.vl, Sk z.rb z.ro (bL n) z.rc, Sk r.2.kb r.2.ko 3 r.2.kc, Pt r.2.w0 0, Pt r.2.w1 0, Mp r.2.fm, Mp r.2.sm, Ns, I now] 142) (aa (Ow 145 1 (Sk r.2.kb r.2.ko 3 r.2.kc) 3 [Pt r.2.k0 0, Pt r.2.k1 0, Pt r.2.k2 0]) (aa (eX r.2.fm [.int .i64, .int .i64, .int .i64] (fun _ => none)) (aa (mapc r.2.sm .i64 r.2.cS) (aa (C0 r.1 r.2.k0) (aa (C1 r.1 r.2.k1) (aa (C2 r.1 r.2.k2) (aa (U r.1 r.2.w0) (aa (V r.1 r.2.w1) (gT z n))))))))))) := by
 refine en func63 rfl fun _ F=>sb rfl<|nj<|sb rfl<|lx rfl (ai (hP) rfl rfl rfl) fun x hx=>an rfl<|js<|gh fun v =>dY ((aa ((aa (am nb [I 3, Sk z.pb z.po 3 z.pc, I 1000, Sk z.wb z.wo 3 z.wc, z.vl, Sk z.rb z.ro (bL n) z.rc, Sk v.kb v.ko 3 v.kc, Pt v.w0 0, Pt v.w1 0, Mp v.fm, Mp v.sm, Ns, I now] 142) (aa (Ow 145 1 (Sk v.kb v.ko 3 v.kc) 3 [Pt v.k0 0, Pt v.k1 0, Pt v.k2 0]) (aa (eX v.fm [.int .i64, .int .i64, .int .i64] (fun _ => none)) (aa (mapc v.sm .i64 v.cS) (aa (C0 x v.k0) (aa (C1 x v.k1) (aa (C2 x v.k2) (aa (U x v.w0) (aa (V x v.w1) ((qq1 z n)))))))))))) (F))) (by show _ = _; rfl)<|jg<|ea rfl<|bJ rfl<|nf rfl<|sk<|js<|sa rfl<|bJ rfl<|ea rfl<|go rfl<|ea rfl<|go rfl<|ea rfl<|go rfl<|ea rfl<|go rfl<|fz rfl<|go rfl<|fz rfl<|go rfl<|ld rfl rfl<|go rfl<|ll rfl<|go rfl<|bJ rfl<|an rfl<|cf rfl<|sk<|js<|dM ae<|qb rfl<|qz rfl<|ql rfl rfl<|qb rfl<|qz rfl<|qz rfl<|ql rfl rfl<|qa rfl<|qv (dx z.po rfl rfl rfl rfl) rfl<|qv (aF 0 rfl rfl rfl) rfl<|qv (dx v.ko rfl rfl rfl rfl) rfl<|qv (aF 0 rfl rfl rfl) rfl<|qb rfl<|qn<|kt<|jr ?_
 exact cH rfl rfl rfl (x, v) hx rfl (Ent.of rfl)
theorem AT (nb : Nat) (z : CfA) (n : Nat) (now : Int) (N : ab) (C0 C1 C2 U V : X -> Nat -> ab) (hP : FSpec prog 60 #[Pt nb 0, I now] N φ (fun _ => I 0) (fun x => NetG nb z n now (C0 x) (C1 x) (C2 x) (U x) (V x))) : FSpec prog 63 #[Pt nb 0, I now, I 1] (N) (fun r : X × NtV => φ r.1) (fun r => .tuple #[Pt r.2.k1 0, I 0]) (fun r => (aa (am nb [I 3, Sk z.pb z.po 3 z.pc, I 1000, Sk z.wb z.wo 3 z.wc, z.vl, Sk z.rb z.ro (bL n) z.rc, Sk r.2.kb r.2.ko 3 r.2.kc, Pt r.2.w0 0, Pt r.2.w1 0, Mp r.2.fm, Mp r.2.sm, Ns, I now] 142) (aa (Ow 145 1 (Sk r.2.kb r.2.ko 3 r.2.kc) 3 [Pt r.2.k0 0, Pt r.2.k1 0, Pt r.2.k2 0]) (aa (eX r.2.fm [.int .i64, .int .i64, .int .i64] (fun _ => none)) (aa (mapc r.2.sm .i64 r.2.cS) (aa (C0 r.1 r.2.k0) (aa (C1 r.1 r.2.k1) (aa (C2 r.1 r.2.k2) (aa (U r.1 r.2.w0) (aa (V r.1 r.2.w1) (gT z n))))))))))) := by
 refine en func63 rfl fun _ F=>sb rfl<|nj<|sb rfl<|lx rfl (ai (hP) rfl rfl rfl) fun x hx=>an rfl<|js<|gh fun v =>dY ((aa ((aa (am nb [I 3, Sk z.pb z.po 3 z.pc, I 1000, Sk z.wb z.wo 3 z.wc, z.vl, Sk z.rb z.ro (bL n) z.rc, Sk v.kb v.ko 3 v.kc, Pt v.w0 0, Pt v.w1 0, Mp v.fm, Mp v.sm, Ns, I now] 142) (aa (Ow 145 1 (Sk v.kb v.ko 3 v.kc) 3 [Pt v.k0 0, Pt v.k1 0, Pt v.k2 0]) (aa (eX v.fm [.int .i64, .int .i64, .int .i64] (fun _ => none)) (aa (mapc v.sm .i64 v.cS) (aa (C0 x v.k0) (aa (C1 x v.k1) (aa (C2 x v.k2) (aa (U x v.w0) (aa (V x v.w1) ((qq1 z n)))))))))))) (F))) (by show _ = _; rfl)<|jg<|ea rfl<|bJ rfl<|nf rfl<|sk<|js<|sa rfl<|bJ rfl<|ea rfl<|go rfl<|ea rfl<|go rfl<|ea rfl<|go rfl<|ea rfl<|go rfl<|fz rfl<|go rfl<|fz rfl<|go rfl<|ld rfl rfl<|go rfl<|ll rfl<|go rfl<|bJ rfl<|an rfl<|cf rfl<|sk<|js<|dM ae<|qb rfl<|qz rfl<|ql rfl rfl<|qb rfl<|qz rfl<|qz rfl<|ql rfl rfl<|qa rfl<|qv (dx (z.po + 1) rfl rfl rfl rfl) rfl<|qv (aF 1 rfl rfl rfl) rfl<|qv (dx (v.ko + 1) rfl rfl rfl rfl) rfl<|qv (aF 1 rfl rfl rfl) rfl<|qb rfl<|qn<|kt<|jr ?_
 exact cH rfl rfl rfl (x, v) hx rfl (Ent.of rfl)
theorem qQ (nb : Nat) (z : CfA) (n : Nat) (now : Int) (N : ab) (C0 C1 C2 U V : X -> Nat -> ab) (hP : FSpec prog 60 #[Pt nb 0, I now] N φ (fun _ => I 0) (fun x => NetG nb z n now (C0 x) (C1 x) (C2 x) (U x) (V x))) (D : X -> Nat -> ab) (e : X -> Int) (d : X -> ByteArray) (l0 l1 l3 : Int) (l2 : ByteArray) (hD : ∀ x, φ x -> ∀ k, Go.SLA.Sp prog 64 #[Pt k 0, I now, I 0, .agg [I l0, I l1, .string l2, I l3].toArray] (aa (C0 x k) (gT z n)) (.agg [I (e x), .string (d x), Ff, I 0].toArray) (aa (D x k) (gT z n))) : FSpec prog 22 #[Pt nb 0, I now, I 0, .agg [I l0, I l1, .string l2, I l3].toArray] (N) (fun x : X => φ x) (fun x => .agg [I (e x), .string (d x), Ff, I 0].toArray) (fun x => NetG nb z n now (D x) (C1 x) (C2 x) (U x) (V x)) := by
 refine en func22 rfl fun _ F=>sr<|lx rfl (aV (l := [I l0, I l1, .string l2, I l3]) rfl rfl) fun b7 _=>al rfl fun b8=>nr<|ec rfl<|lx rfl (ai (AU nb z n now N C0 C1 C2 U V hP) rfl rfl rfl) fun r hr=>ea rfl<|lv (ap (v := Pt r.2.k0 0) rfl rfl) rfl<|lv (ap (v := I 0) rfl rfl) rfl<|eb rfl<|nj<|sa rfl<|bJ rfl<|nf rfl<|sk<|sr<|ec rfl<|ls rfl<|cy (hD r.1 hr r.2.k0) rfl fun _=>lx rfl (dU rfl rfl rfl) fun _ _=>nk<|jr ?_
 exact bM rfl (.agg rfl rfl (.nil)) r.1 hr rfl (Ent.trans (Ent.take (Q := (aa ((aa (am nb [I 3, Sk z.pb z.po 3 z.pc, I 1000, Sk z.wb z.wo 3 z.wc, z.vl, Sk z.rb z.ro (bL n) z.rc, Sk r.2.kb r.2.ko 3 r.2.kc, Pt r.2.w0 0, Pt r.2.w1 0, Mp r.2.fm, Mp r.2.sm, Ns, I now] 142) (aa (Ow 145 1 (Sk r.2.kb r.2.ko 3 r.2.kc) 3 [Pt r.2.k0 0, Pt r.2.k1 0, Pt r.2.k2 0]) (aa (eX r.2.fm [.int .i64, .int .i64, .int .i64] (fun _ => none)) (aa (mapc r.2.sm .i64 r.2.cS) (aa (D r.1 r.2.k0) (aa (C1 r.1 r.2.k1) (aa (C2 r.1 r.2.k2) (aa (U r.1 r.2.w0) (aa (V r.1 r.2.w1) (gT z n))))))))))) (F)))) (Ent.frame (NetG.fold (C0 := D r.1) (C1 := C1 r.1) (C2 := C2 r.1) (U := U r.1) (V := V r.1) r.2) _))
theorem yI (nb : Nat) (z : CfA) (n : Nat) (now : Int) (N : ab) (C0 C1 C2 U V : X -> Nat -> ab) (hP : FSpec prog 60 #[Pt nb 0, I now] N φ (fun _ => I 0) (fun x => NetG nb z n now (C0 x) (C1 x) (C2 x) (U x) (V x))) (D : X -> Nat -> ab) (e : X -> Int) (d : X -> ByteArray) (l0 l1 l3 : Int) (l2 : ByteArray) (hD : ∀ x, φ x -> ∀ k, Go.SLA.Sp prog 64 #[Pt k 0, I now, I 1, .agg [I l0, I l1, .string l2, I l3].toArray] (aa (C1 x k) (gT z n)) (.agg [I (e x), .string (d x), Ff, I 0].toArray) (aa (D x k) (gT z n))) : FSpec prog 22 #[Pt nb 0, I now, I 1, .agg [I l0, I l1, .string l2, I l3].toArray] (N) (fun x : X => φ x) (fun x => .agg [I (e x), .string (d x), Ff, I 0].toArray) (fun x => NetG nb z n now (C0 x) (D x) (C2 x) (U x) (V x)) := by
 refine en func22 rfl fun _ F=>sr<|lx rfl (aV (l := [I l0, I l1, .string l2, I l3]) rfl rfl) fun b7 _=>al rfl fun b8=>nr<|ec rfl<|lx rfl (ai (AT nb z n now N C0 C1 C2 U V hP) rfl rfl rfl) fun r hr=>ea rfl<|lv (ap (v := Pt r.2.k1 0) rfl rfl) rfl<|lv (ap (v := I 0) rfl rfl) rfl<|eb rfl<|nj<|sa rfl<|bJ rfl<|nf rfl<|sk<|sr<|ec rfl<|ls rfl<|cy (hD r.1 hr r.2.k1) rfl fun _=>lx rfl (dU rfl rfl rfl) fun _ _=>nk<|jr ?_
 exact bM rfl (.agg rfl rfl (.nil)) r.1 hr rfl (Ent.trans (Ent.take (Q := (aa ((aa (am nb [I 3, Sk z.pb z.po 3 z.pc, I 1000, Sk z.wb z.wo 3 z.wc, z.vl, Sk z.rb z.ro (bL n) z.rc, Sk r.2.kb r.2.ko 3 r.2.kc, Pt r.2.w0 0, Pt r.2.w1 0, Mp r.2.fm, Mp r.2.sm, Ns, I now] 142) (aa (Ow 145 1 (Sk r.2.kb r.2.ko 3 r.2.kc) 3 [Pt r.2.k0 0, Pt r.2.k1 0, Pt r.2.k2 0]) (aa (eX r.2.fm [.int .i64, .int .i64, .int .i64] (fun _ => none)) (aa (mapc r.2.sm .i64 r.2.cS) (aa (C0 r.1 r.2.k0) (aa (D r.1 r.2.k1) (aa (C2 r.1 r.2.k2) (aa (U r.1 r.2.w0) (aa (V r.1 r.2.w1) (gT z n))))))))))) (F)))) (Ent.frame (NetG.fold (C1 := D r.1) (C0 := C0 r.1) (C2 := C2 r.1) (U := U r.1) (V := V r.1) r.2) _))
theorem DQ  : FSpec prog 61 #[I 0] (emp) (fun _ : Unit => True) (fun _ => Tt) (fun _ => emp) := by
 refine en func61 r fun _ F=>aE r<|sa r<|eR r<|ea r<|go r<|ea r<|go r<|eR r<|eb r<|nk<|jr ?_
 exact aD rfl rfl () trivial (rfl) (ah _)
theorem yH (nb : Nat) (z : CfA) (n : Nat) (now : Int) (N : ab) (C0 C1 C2 U V : X -> Nat -> ab) (hP : FSpec prog 60 #[Pt nb 0, I now] N φ (fun _ => I 0) (fun x => NetG nb z n now (C0 x) (C1 x) (C2 x) (U x) (V x))) (D : X -> Nat -> ab) (t : ByteArray) (hT : ∀ x, φ x -> ∀ w, FSpec prog 62 #[Pt w 0, I now, I 2, .string t, I 0] (U x w) (fun e : Int => e ≠ 0) (fun e => I e) (fun _ => D x w)) : FSpec prog 21 #[Pt nb 0, I now, I 2, I 0, .string t] (N) (fun x : X × Int => φ x.1 /\ x.2 ≠ 0) (fun x => I x.2) (fun x => NetG nb z n now (C0 x.1) (C1 x.1) (C2 x.1) (D x.1) (V x.1)) := by
 refine en func21 r fun _ F=>aE r<|js<|sb r<|lx r (ai (hP) r r r) fun x hx=>an r<|js<|gh fun v =>jg<|ea r<|bJ r<|nf r<|sk<|js<|sa r<|bJ r<|ea r<|go r<|ea r<|go r<|ea r<|go r<|ea r<|go r<|fz r<|go r<|ld r r<|go r<|ll r<|go r<|bJ r<|eb r<|go r<|ea r<|go r<|cy DQ r fun _=>cj<|go r<|lv (fF r) r<|an r<|cf r<|sk<|sr<|ec r<|fz r<|lv (bZ 7 r r r r) r<|ld r r<|ec r<|lx r (ai (hT x hx v.w0) r r r) fun e he=>an r<|jr ?_
 exact aD rfl rfl (x, e) ⟨hx, he⟩ rfl (Ent.trans (Ent.take (Q := (aa ((aa (am nb [I 3, Sk z.pb z.po 3 z.pc, I 1000, Sk z.wb z.wo 3 z.wc, z.vl, Sk z.rb z.ro (bL n) z.rc, Sk v.kb v.ko 3 v.kc, Pt v.w0 0, Pt v.w1 0, Mp v.fm, Mp v.sm, Ns, I now] 142) (aa (Ow 145 1 (Sk v.kb v.ko 3 v.kc) 3 [Pt v.k0 0, Pt v.k1 0, Pt v.k2 0]) (aa (eX v.fm [.int .i64, .int .i64, .int .i64] (fun _ => none)) (aa (mapc v.sm .i64 v.cS) (aa (C0 x v.k0) (aa (C1 x v.k1) (aa (C2 x v.k2) (aa (D x v.w0) (aa (V x v.w1) (gT z n))))))))))) (F)))) (Ent.frame (NetG.fold (U := D x) (C0 := C0 x) (C1 := C1 x) (C2 := C2 x) (V := V x) v) _))
theorem DP  : FSpec prog 61 #[I 1] (emp) (fun _ : Unit => True) (fun _ => Tt) (fun _ => emp) := by
 refine en func61 r fun _ F=>aE r<|sa r<|eR r<|ea r<|go r<|ea r<|go r<|eR r<|eb r<|nk<|jr ?_
 exact aD rfl rfl () trivial (rfl) (ah _)
theorem yG (nb : Nat) (z : CfA) (n : Nat) (now : Int) (N : ab) (C0 C1 C2 U V : X -> Nat -> ab) (hP : FSpec prog 60 #[Pt nb 0, I now] N φ (fun _ => I 0) (fun x => NetG nb z n now (C0 x) (C1 x) (C2 x) (U x) (V x))) (D : X -> Nat -> ab) (t : ByteArray) (hT : ∀ x, φ x -> ∀ w, FSpec prog 62 #[Pt w 0, I now, I 2, .string t, I 0] (V x w) (fun e : Int => e ≠ 0) (fun e => I e) (fun _ => D x w)) : FSpec prog 21 #[Pt nb 0, I now, I 2, I 1, .string t] (N) (fun x : X × Int => φ x.1 /\ x.2 ≠ 0) (fun x => I x.2) (fun x => NetG nb z n now (C0 x.1) (C1 x.1) (C2 x.1) (U x.1) (D x.1)) := by
 refine en func21 r fun _ F=>aE r<|js<|sb r<|lx r (ai (hP) r r r) fun x hx=>an r<|js<|gh fun v =>jg<|ea r<|bJ r<|nf r<|sk<|js<|sa r<|bJ r<|ea r<|go r<|ea r<|go r<|ea r<|go r<|ea r<|go r<|fz r<|go r<|ld r r<|go r<|ll r<|go r<|bJ r<|eb r<|go r<|ea r<|go r<|cy DP r fun _=>cj<|go r<|lv (fF r) r<|an r<|cf r<|sk<|sr<|ec r<|fz r<|lv (bZ 8 r r r r) r<|ld r r<|ec r<|lx r (ai (hT x hx v.w1) r r r) fun e he=>an r<|jr ?_
 exact aD rfl rfl (x, e) ⟨hx, he⟩ rfl (Ent.trans (Ent.take (Q := (aa ((aa (am nb [I 3, Sk z.pb z.po 3 z.pc, I 1000, Sk z.wb z.wo 3 z.wc, z.vl, Sk z.rb z.ro (bL n) z.rc, Sk v.kb v.ko 3 v.kc, Pt v.w0 0, Pt v.w1 0, Mp v.fm, Mp v.sm, Ns, I now] 142) (aa (Ow 145 1 (Sk v.kb v.ko 3 v.kc) 3 [Pt v.k0 0, Pt v.k1 0, Pt v.k2 0]) (aa (eX v.fm [.int .i64, .int .i64, .int .i64] (fun _ => none)) (aa (mapc v.sm .i64 v.cS) (aa (C0 x v.k0) (aa (C1 x v.k1) (aa (C2 x v.k2) (aa (U x v.w0) (aa (D x v.w1) (gT z n))))))))))) (F)))) (Ent.frame (NetG.fold (V := D x) (C0 := C0 x) (C1 := C1 x) (C2 := C2 x) (U := U x) v) _))
end Sp
end
section
namespace Sp
open Mq
variable {t a id i T xb xe g m nn m0 m1 : Int} {c : NC} {R rows : List ByteArray} {z : CfA} {n nb : Nat} {A A' : Nat -> ab} {x : NS} {Tb : TS}
theorem cK {A A' B B' : ab} (a : Ent A A') (b : Ent B B') : Ent (aa (A) (B)) (aa (A') (B')) := Ent.trans (a.frame _) (aw b _)
theorem lR {A : Int -> ab} (h : t <= a) : Ent (SLA.ex fun tn : Int => (aa (SLA.lift (tn <= t)) (A tn))) (SLA.ex fun tn : Int => (aa (SLA.lift (tn <= a)) (A tn))) :=
 gl fun x ⟨xn, h1, h2, ha, hj, hl, hb⟩ => ⟨xn, h1, h2, ha, hj, ⟨Int.le_trans hl.1 h, hl.2⟩, hb⟩
theorem kA.mono (h : t <= a) (p : Nat) : Ent (kA c id i t T R p) (kA c id i a T R p) := lR h
theorem kL.mono {k : Int} {x0 x1 : ByteArray} (h : t <= a) (p : Nat) : Ent (kL c id i t T R k x0 x1 xb xe p) (kL c id i a T R k x0 x1 xb xe p) := lR h
theorem sI.mono (h : t <= a) (p : Nat) : Ent (sI c g t T p) (sI c g a T p) := lR h
theorem sB.mono {x : ByteArray} (h : t <= a) (p : Nat) : Ent (sB c g t T x xb xe p) (sB c g a T x xb xe p) := lR h
theorem sI.begin (h : t <= a) (hT : 0 <= T /\ T <= 1000) (p : Nat) : Ent (sI c g t 0 p) (sI c g a T p) := by
 refine Ent.trans (sI.mono h p) ?_
 intro x hx
 obtain ⟨tn, h1, h2, ha, hj, hl, hb⟩ := hx
 obtain ⟨x', e1, e2⟩ := (aw (SwI.begin hT) (SLA.lift (tn <= a))) x ⟨h1, h2, ha, hj, hl, hb⟩
 exact ⟨x', e1, tn, e2⟩
theorem TxN.mono {p : Nat} (h : t <= a) : Ent (TxN p t) (TxN p a) := gl fun x ⟨y, h1, h2, ha, hj, hl, hb⟩ => ⟨y, h1, h2, ha, hj, ⟨⟨hl.1.1, Int.le_trans hl.1.2.1 h, Int.le_trans hl.1.2.2 h⟩, hl.2⟩, hb⟩
theorem hG {k : Nat} {host : Int} {m0 m1 : Option Value} {B B' : Nat -> Nat -> ab} (ht : t <= a) (hA : ∀ p, Ent (A p) (A' p)) (hB : ∀ rx rm, Ent (B rx rm) (B' rx rm)) : Ent (KrP k z n host t m0 m1 A B) (KrP k z n host a m0 m1 A' B') := fun x hx => by
 obtain ⟨v, h1, h2, ha, hj, hl, hb⟩ := hx
 obtain ⟨x', e1, e2⟩ := (aw (aw (aw (cK (hA v.tx) (hB v.rx v.rm)) _) _) (SLA.lift (v.kn <= a /\ v.fm 0 = m0 /\ v.fm 1 = m1))) x ⟨h1, h2, ha, hj, ⟨⟨Int.le_trans hl.1.1 ht, hl.1.2⟩, hl.2⟩, hb⟩
 exact ⟨x', e1, v, e2⟩
theorem K0.mono (h : t <= a) (hA : ∀ p, Ent (A p) (A' p)) (k : Nat) : Ent (K0 c m t A k) (K0 c m a A' k) := hG h hA fun _ _ => ah _
theorem K1.mono {T : TS} (h : t <= a) (k : Nat) : Ent (K1 c m t (BxP c.z c.n c.sm i t T rows) k) (K1 c m a (BxP c.z c.n c.sm i a T rows) k) := hG h (fun _ => TxN.mono h) fun _ _ => BxP.mono h
theorem K2.mono (h : t <= a) (k : Nat) : Ent (K2 c t k) (K2 c a k) := hG h (fun _ => TxN.mono h) fun _ _ => ah _
theorem NetG.mono {C0 C1 C2 U V C0' C1' C2' U' V' : Nat -> ab} (h0 : ∀ k, Ent (C0 k) (C0' k)) (h1 : ∀ k, Ent (C1 k) (C1' k)) (h2 : ∀ k, Ent (C2 k) (C2' k)) (hU : ∀ k, Ent (U k) (U' k)) (hV : ∀ k, Ent (V k) (V' k)) : Ent (NetG nb z n nn C0 C1 C2 U V) (NetG nb z n nn C0' C1' C2' U' V') := fun x hx => by
 obtain ⟨v, hv⟩ := hx
 obtain ⟨x', e1, e2⟩ := (aw (aw (aw (aw (cK (h0 v.k0) (cK (h1 v.k1) (cK (h2 v.k2) (cK (hU v.w0) (Ent.frame (hV v.w1) _))))) _) _) _) _) x hv
 exact ⟨x', e1, v, e2⟩
def jy (c : NC) (nb : Nat) (m0 m1 id nn : Int) (x : NS) : ab := NetG nb c.z c.n nn (fC0 c m0 id x) (fC1 c m1 x) (fC2 c x) (fU c x) (fV c x)
def NS.at (x : NS) (t' : Int) : NS := match x with
 | .q _ i T R Tb rows => .q t' i T R Tb rows
 | .l _ i T R d Tb rows => .l t' i T R d Tb rows
 | .w _ i T sa R d Tb rows => .w t' i T sa R d Tb rows
theorem fC0.mono (h : x.t <= a) (k : Nat) : Ent (fC0 c m id x k) (fC0 c m id (x.at a) k) := by
 cases x with
 | q t i T R Tb rows => exact K0.mono h (kA.mono h) k
 | l t i T R d Tb rows => exact K0.mono h (kL.mono h) k
 | w t i T sa R d Tb rows => exact K0.mono h (kA.mono h) k
theorem fC1.mono (h : x.t <= a) (k : Nat) : Ent (fC1 c m x k) (fC1 c m (x.at a) k) := by
 cases x <;> exact K1.mono h k
theorem fC2.mono (h : x.t <= a) (k : Nat) : Ent (fC2 c x k) (fC2 c (x.at a) k) := by
 cases x <;> exact K2.mono h k
theorem fU.mono (h : x.t <= a) (k : Nat) : Ent (fU c x k) (fU c (x.at a) k) := by
 cases x with
 | q t i T R Tb rows => exact sI.mono h k
 | l t i T R d Tb rows => exact sI.mono h k
 | w t i T sa R d Tb rows => exact sB.mono h k
theorem fV.mono (h : x.t <= a) (k : Nat) : Ent (fV c x k) (fV c (x.at a) k) := by
 cases x with
 | q t i T R Tb rows => exact sI.mono h k
 | l t i T R d Tb rows => exact sI.mono h k
 | w t i T sa R d Tb rows => exact sB.mono h k
theorem pA (nn now : Int) (x : NS) (h : 0 <= nn /\ nn <= now /\ now <= 10000000) (he : nn - nn % 50 = now - now % 50) : FSpec prog 60 #[Pt nb 0, I now] (jy c nb m0 m1 id nn x) (fun x' => x' = x) (fun _ => I 0) (fun x' => jy c nb m0 m1 id now x') :=
 BX nb c.z c.n nn now (fC0 c m0 id) (fC1 c m1) (fC2 c) (fU c) (fV c) (fun _ x' => x' = x) x h rfl fun a x h0 h1 h2 h3 hi => absurd he (by omega)
theorem FSpec.one {f : FuncId} {args : Array Value} {X : Type} {φ : X -> Prop} {P : ab} {v : X -> Value} {Q : X -> ab} {v' : Value} {Q' : ab} (k : FSpec prog f args P φ v Q) (hv : ∀ x, φ x -> v x = v') (hq : ∀ x, φ x -> Ent (Q x) Q') : Go.SLA.Sp prog f args P v' Q' := k.conseq (ah _) fun x hx => ⟨(), trivial, hv x hx, hq x hx⟩
theorem Gy (h : 0 <= nn /\ nn <= a /\ a < 50 /\ t <= a) : Go.SLA.Sp prog 22 #[Pt nb 0, I a, I 0, .agg [I 4, I 0, Z, I 3].toArray] (jy c nb 1 m1 0 nn (.q t 0 T R Tb rows)) qq25 (jy c nb 3 m1 0 a (.q a 0 T R Tb rows)) :=
 FSpec.one (qQ nb c.z c.n a (jy c nb 1 m1 0 nn (.q t 0 T R Tb rows)) (fC0 c 1 0) (fC1 c m1) (fC2 c) (fU c) (fV c) (pA nn a _ ⟨h.1, h.2.1, by omega⟩ (by omega)) (fun _ k => KrP k c.z c.n 0 a (some (I 3)) none (kA c 0 0 t T R) (fun _ _ => emp)) (fun _ => 0) (fun _ => ⟨#[]⟩) 4 0 3 ⟨#[]⟩
  (fun x hx k => by subst hx; exact AY k c.z c.n t a (kA c 0 0 t T R) (fun _ _ => emp) ⟨h.2.2.2, by omega, by omega⟩)) (fun _ _ => rfl) fun x hx => by
   subst hx
   exact NetG.mono (fun k => hG (Int.le_refl _) (kA.mono h.2.2.2) fun _ _ => ah _) (fC1.mono h.2.2.2) (fC2.mono h.2.2.2) (fU.mono h.2.2.2) (fV.mono h.2.2.2)
theorem Gx (h : 0 <= nn /\ nn <= a /\ a < 50 /\ t <= a) : Go.SLA.Sp prog 22 #[Pt nb 0, I a, I 1, .agg [I 4, I 0, Z, I 3].toArray] (jy c nb m0 1 0 nn (.q t 0 T R Tb rows)) qq25 (jy c nb m0 3 0 a (.q a 0 T R Tb rows)) :=
 FSpec.one (yI nb c.z c.n a (jy c nb m0 1 0 nn (.q t 0 T R Tb rows)) (fC0 c m0 0) (fC1 c 1) (fC2 c) (fU c) (fV c) (pA nn a _ ⟨h.1, h.2.1, by omega⟩ (by omega)) (fun _ k => KrP k c.z c.n 1 a none (some (I 3)) (fun tx => TxN tx t) (BxP c.z c.n c.sm 0 t Tb rows)) (fun _ => 0) (fun _ => ⟨#[]⟩) 4 0 3 ⟨#[]⟩
  (fun x hx k => by subst hx; exact AX k c.z c.n t a (fun tx => TxN tx t) (BxP c.z c.n c.sm 0 t Tb rows) ⟨h.2.2.2, by omega, by omega⟩)) (fun _ _ => rfl) fun x hx => by
   subst hx
   exact NetG.mono (fC0.mono h.2.2.2) (fun k => hG (Int.le_refl _) (fun _ => TxN.mono h.2.2.2) fun _ _ => BxP.mono h.2.2.2) (fC2.mono h.2.2.2) (fU.mono h.2.2.2) (fV.mono h.2.2.2)
end Sp
end
section
namespace Sp
open Mq
variable {c : NC} {id t T a i nn : Int} {m d : ByteArray} {R rows : List ByteArray} {nb : Nat} {Tb : TS}
theorem qH {f : FuncId} {args : Array Value} {p : Int -> Prop} {A : Int -> ab} {v : Value} {Q R : ab} (k : ∀ tn, p tn -> Go.SLA.Sp prog f args (aa (A tn) (R)) v Q) : Go.SLA.Sp prog f args (aa ((SLA.ex fun tn : Int => (aa (SLA.lift (p tn)) (A tn)))) (R)) v Q := by
 refine cC fun tn =>FSpec.eq _ (ak _ _ _) ?_
 exact aO (k tn)
abbrev _root_.Go.qq36 (a : NC) := cE a.n a.z.rb a.z.ro a.z.rc
theorem FD (hc : NCH c) (hm : bY id c.sm m) (h : t <= a /\ a <= 10000000) (p : Nat) : Go.SLA.Sp prog 176 #[Pt p 0, I a, I 10, .string m] (aa (kA c id 0 t T [] p) (qq36 c)) (I 0) (aa (kA c (id + 1) 0 a a ([] ++ dq id c.sm m) p) (qq36 c)) :=
 qH fun tn ht => Sp.to (IP p c.n c.z.rb c.z.ro c.z.rc hc.n c.sm c.bg c.P id 0 tn T a m hm ⟨by omega, h.2⟩ rfl) (Ent.frame (exl (p := fun tn => tn <= a) (A := fun tn => TxQ p c.n c.z.rb c.z.ro c.z.rc c.sm c.bg c.P (id + 1) 0 tn a ([] ++ dq id c.sm m)) a (Int.le_refl _)) _)
theorem FC (hc : NCH c) (hm : bY id c.sm m) (h : t <= a /\ a <= 10000000) (hT : T <= a /\ a < T + 64) (hi : i <= 80) (hR : R.length <= 90) (p : Nat) : Go.SLA.Sp prog 176 #[Pt p 0, I a, I 10, .string m] (aa (kA c id i t T (d :: R) p) (qq36 c)) (I 0) (aa (kL c (id + 1) (i + 1) a (T + c.P) (R ++ dq id c.sm m) i (aL 10 0 0 i d) (aL 10 0 1 i d) T (T + (((aL 10 0 0 i d).size : Int) + 20)) p) (qq36 c)) :=
 qH fun tn ht => Sp.to (IN p c.n c.z.rb c.z.ro c.z.rc hc.n c.sm c.bg c.P id i tn T a m hm R d ⟨by omega, h.2⟩ hT hi hR) (Ent.frame (exl (p := fun tn => tn <= a) (A := fun tn => TxL p c.n c.z.rb c.z.ro c.z.rc c.sm c.bg c.P (id + 1) (i + 1) tn (T + c.P) (R ++ dq id c.sm m) i (aL 10 0 0 i d) (aL 10 0 1 i d) T (T + (((aL 10 0 0 i d).size : Int) + 20))) a (Int.le_refl _)) _)
theorem FB {k : Int} {x0 x1 : ByteArray} {xb xe : Int} (hc : NCH c) (hm : bY id c.sm m) (h : t <= a /\ a <= 10000000) (hx : a < xe) (hR : R ≠ [] /\ R.length <= 90) (p : Nat) : Go.SLA.Sp prog 176 #[Pt p 0, I a, I 10, .string m] (aa (kL c id i t T R k x0 x1 xb xe p) (qq36 c)) (I 0) (aa (kL c (id + 1) i a T (R ++ dq id c.sm m) k x0 x1 xb xe p) (qq36 c)) :=
 qH fun tn ht => Sp.to (IM p c.n c.z.rb c.z.ro c.z.rc hc.n c.sm c.bg c.P id i tn T a m hm R k x0 x1 xb xe ⟨by omega, h.2⟩ hx hR) (Ent.frame (exl (p := fun tn => tn <= a) (A := fun tn => TxL p c.n c.z.rb c.z.ro c.z.rc c.sm c.bg c.P (id + 1) i tn T (R ++ dq id c.sm m) k x0 x1 xb xe) a (Int.le_refl _)) _)
theorem xW (hc : NCH c) (hm : bY id c.sm m) (h : 0 <= nn /\ nn <= a /\ a < 50 /\ t <= a) : Go.SLA.Sp prog 22 #[Pt nb 0, I a, I 0, .agg (qq47 m).toArray] (eu c nb 3 id nn (.q t 0 0 [] Tb rows)) qq25 (eu c nb 3 (id + 1) a (.q a 0 a ([] ++ dq id c.sm m) Tb rows)) :=
 FSpec.one (qQ nb c.z c.n a (eu c nb 3 id nn (.q t 0 0 [] Tb rows)) (fC0 c 3 id) (fC1 c 3) (fC2 c) (fU c) (fV c) (pA nn a _ ⟨h.1, h.2.1, by omega⟩ (by omega)) (fun _ k => KrP k c.z c.n 0 a (some (I 3)) none (kA c (id + 1) 0 a a ([] ++ dq id c.sm m)) (fun _ _ => emp)) (fun _ => 0) (fun _ => ⟨#[]⟩) 1 10 0 m
  (fun x hx k => by subst hx; exact qS k c.z c.n t a (kA c id 0 t 0 []) (fun _ _ => emp) hc.n (kA c (id + 1) 0 a a ([] ++ dq id c.sm m)) m 0 ⟨h.2.2.2, by omega, by omega⟩ (FD hc hm ⟨h.2.2.2, by omega⟩))) (fun _ _ => rfl) fun x hx => by
   subst hx
   exact NetG.mono (fun _ => ah _) (fun k => K1.mono h.2.2.2 k) (fun k => K2.mono h.2.2.2 k) (fun k => sI.begin h.2.2.2 (by omega) k) (fun k => sI.begin h.2.2.2 (by omega) k)
theorem C9 (hc : NCH c) (hm : bY id c.sm m) (h : 0 <= nn /\ nn <= a /\ a < 50 /\ t <= a) (hT : T <= a /\ a < T + 64) (hi : i <= 80) (hR : R.length <= 90) : Go.SLA.Sp prog 22 #[Pt nb 0, I a, I 0, .agg (qq47 m).toArray] (eu c nb 3 id nn (.q t i T (d :: R) Tb rows)) qq25 (eu c nb 3 (id + 1) a (.l a i T (R ++ dq id c.sm m) d Tb rows)) :=
 FSpec.one (qQ nb c.z c.n a (eu c nb 3 id nn (.q t i T (d :: R) Tb rows)) (fC0 c 3 id) (fC1 c 3) (fC2 c) (fU c) (fV c) (pA nn a _ ⟨h.1, h.2.1, by omega⟩ (by omega)) (fun _ k => KrP k c.z c.n 0 a (some (I 3)) none (kL c (id + 1) (i + 1) a (T + c.P) (R ++ dq id c.sm m) i (aL 10 0 0 i d) (aL 10 0 1 i d) T (T + (((aL 10 0 0 i d).size : Int) + 20))) (fun _ _ => emp)) (fun _ => 0) (fun _ => ⟨#[]⟩) 1 10 0 m
  (fun x hx k => by subst hx; exact qS k c.z c.n t a (kA c id i t T (d :: R)) (fun _ _ => emp) hc.n _ m 0 ⟨h.2.2.2, by omega, by omega⟩ (FC hc hm ⟨h.2.2.2, by omega⟩ hT hi hR))) (fun _ _ => rfl) fun x hx => by
   subst hx
   exact NetG.mono (fun _ => ah _) (fun k => K1.mono h.2.2.2 k) (fun k => K2.mono h.2.2.2 k) (fun k => sI.mono h.2.2.2 k) (fun k => sI.mono h.2.2.2 k)
theorem C8 (hc : NCH c) (hm : bY id c.sm m) (h : 0 <= nn /\ nn <= a /\ a < 50 /\ t <= a) (hx : a < T + (((aL 10 0 0 i d).size : Int) + 20)) (hR : R ≠ [] /\ R.length <= 90) : Go.SLA.Sp prog 22 #[Pt nb 0, I a, I 0, .agg (qq47 m).toArray] (eu c nb 3 id nn (.l t i T R d Tb rows)) qq25 (eu c nb 3 (id + 1) a (.l a i T (R ++ dq id c.sm m) d Tb rows)) :=
 FSpec.one (qQ nb c.z c.n a (eu c nb 3 id nn (.l t i T R d Tb rows)) (fC0 c 3 id) (fC1 c 3) (fC2 c) (fU c) (fV c) (pA nn a _ ⟨h.1, h.2.1, by omega⟩ (by omega)) (fun _ k => KrP k c.z c.n 0 a (some (I 3)) none (kL c (id + 1) (i + 1) a (T + c.P) (R ++ dq id c.sm m) i (aL 10 0 0 i d) (aL 10 0 1 i d) T (T + (((aL 10 0 0 i d).size : Int) + 20))) (fun _ _ => emp)) (fun _ => 0) (fun _ => ⟨#[]⟩) 1 10 0 m
  (fun x hx' k => by subst hx'; exact qS k c.z c.n t a (kL c id (i + 1) t (T + c.P) R i (aL 10 0 0 i d) (aL 10 0 1 i d) T (T + (((aL 10 0 0 i d).size : Int) + 20))) (fun _ _ => emp) hc.n _ m 0 ⟨h.2.2.2, by omega, by omega⟩ (FB hc hm ⟨h.2.2.2, by omega⟩ hx hR))) (fun _ _ => rfl) fun x hx' => by
   subst hx'
   exact NetG.mono (fun _ => ah _) (fun k => K1.mono h.2.2.2 k) (fun k => K2.mono h.2.2.2 k) (fun k => sI.mono h.2.2.2 k) (fun k => sI.mono h.2.2.2 k)
def Wrt (c : NC) (w : Int) (ms : List ByteArray) (x : NS) : Prop := match ms with
 | [] => ∃ t, t < w /\ x = .q t 0 0 [] ⟨[], 0, 0⟩ []
 | [m] => x = .q w 0 w (dq 0 c.sm m) ⟨[], 0, 0⟩ []
 | m :: m2 :: l => ∃ d R, d :: R = eJ c.sm 0 (m :: m2 :: l) /\ x = .l w 0 w R d ⟨[], 0, 0⟩ []
theorem nL {sm : Int} : ∀ {j : Int} {l : List ByteArray} {m : ByteArray}, eJ sm j (l ++ [m]) = eJ sm j l ++ dq (j + l.length) sm m
 | j, [], m => by simp [eJ]
 | j, a :: l, m => by
  rw [List.cons_append, eJ, eJ, nL, List.append_assoc]
  congr 3
  simp only [List.length_cons]
  omega
theorem lB {sm : Int} : ∀ {j : Int} {l : List ByteArray}, MsH sm j l -> l.length <= (eJ sm j l).length /\ (eJ sm j l).length <= 3 * l.length
 | j, [], _ => by simp [eJ]
 | j, a :: l, h => by
  have h1 := eT h.1
  have h2 := lB h.2
  rw [eJ, List.length_append, List.length_cons]
  omega
theorem MsH.app {sm : Int} : ∀ {j : Int} {l : List ByteArray} {m : ByteArray}, MsH sm j (l ++ [m]) ↔ MsH sm j l /\ bY (j + l.length) sm m
 | j, [], m => by simp [MsH]
 | j, a :: l, m => by
  rw [List.cons_append, MsH, MsH, MsH.app, and_assoc]
  have : j + ((a :: l).length : Int) = j + 1 + (l.length : Int) := by simp only [List.length_cons]; omega
  rw [this]
theorem Aw {w : Int} {ms : List ByteArray} {x : NS} (hc : NCH c) (hms : MsH c.sm 0 (ms ++ [m])) (hl : ms.length <= 7) (hx : Wrt c w ms x) (h : 0 <= nn /\ nn <= w /\ w < 50) : FSpec prog 22 #[Pt nb 0, I w, I 0, .agg (qq47 m).toArray] (eu c nb 3 ms.length nn x) (fun x' => Wrt c w (ms ++ [m]) x') (fun _ => qq25) (fun x' => eu c nb 3 ((ms ++ [m]).length : Nat) w x') := by
 have hid : (((ms ++ [m]).length : Nat) : Int) = (ms.length : Int) + 1 := by simp
 obtain ⟨h1, h2⟩ := MsH.app.1 hms
 rw [Int.zero_add] at h2
 rw [hid]
 match ms, hx, h1, h2, hl with
 | [], hx, h1, h2, hl =>
  obtain ⟨t, ht, rfl⟩ := hx
  exact ie _ rfl (xW hc h2 ⟨h.1, h.2.1, h.2.2, Int.le_of_lt ht⟩)
 | [m1], hx, h1, h2, hl =>
  subst hx
  have hp := eT h1.1
  cases hq : dq 0 c.sm m1 with
  | nil => rw [hq] at hp; exact absurd hp.1 (by simp)
  | cons d R =>
   rw [hq] at hp
   simp only [List.length_cons] at hp
   refine ie _ ?_ (C9 hc h2 ⟨h.1, h.2.1, h.2.2, Int.le_refl _⟩ ⟨Int.le_refl _, by omega⟩ (by decide) (by omega))
   refine ⟨d, _, ?_, rfl⟩
   show _ = eJ c.sm 0 ([m1] ++ [m])
   rw [nL, eJ, eJ, hq, List.append_nil, List.cons_append, Int.zero_add]
 | m1 :: m2 :: l, hx, h1, h2, hl =>
  obtain ⟨d, R, hdR, rfl⟩ := hx
  have hp := lB h1
  rw [<- hdR] at hp
  simp only [List.length_cons] at hp hl
  have hz := cB 10 0 0 0 d
  refine ie _ ?_ (C8 hc h2 ⟨h.1, h.2.1, h.2.2, Int.le_refl _⟩ (by omega) ⟨fun e => by subst e; simp at hp, by omega⟩)
  refine ⟨d, _, ?_, rfl⟩
  show _ = eJ c.sm 0 ((m1 :: m2 :: l) ++ [m])
  rw [nL, <- hdR, List.cons_append, Int.zero_add]
end Sp
end
section
namespace Sp
open Mq
variable {c : NC} {nb : Nat} {id now M T0 g t T a vl ho sq t' : Int} {ms : List ByteArray} {x : NS} {d : ByteArray}
def DE (now : Int) (ms : List ByteArray) (x : NS) : Prop := ∃ t i T Tb, t <= now /\ x = .q t i T [] Tb ms
def vD (ms : List ByteArray) : Int := match ms with
 | [] => 23
 | _ :: _ => 0
def vE (ms : List ByteArray) : ByteArray := match ms with
 | [] => ⟨#[]⟩
 | d :: _ => d
def fD (c : NC) (now : Int) : NS -> Nat -> ab
 | .q t i _ _ Tb rows, k => KrP k c.z c.n 1 now none (some (I 3)) (fun tx => TxN tx t) (fun rx rm => (aa ((ex fun xn : Int => (aa (SLA.lift (0 <= xn /\ xn <= t)) (RxP rx c.n c.z.rb c.z.ro c.z.rc c.sm i xn Tb)))) (RmP rm rows.tail)))
 | _, _ => emp
theorem BV {N : ab} (hc : NCH c) (hl : ms.length <= 100) (h : 0 <= now /\ now <= 10000000) (hP : FSpec prog 60 #[Pt nb 0, I now] N (fun x => DE now ms x) (fun _ => I 0) (fun x => eu c nb 3 id now x)) : FSpec prog 22 #[Pt nb 0, I now, I 1, .agg [I 3, I 20, Z, I 0].toArray] N (fun x => DE now ms.tail x) (fun _ => .agg [I (vD ms), .string (vE ms), Ff, I 0].toArray) (fun x => eu c nb 3 id now x) := by
 refine (yI nb c.z c.n now N (fC0 c 3 id) (fC1 c 3) (fC2 c) (fU c) (fV c) hP (fD c now) (fun _ => vD ms) (fun _ => vE ms) 3 20 0 ⟨#[]⟩ (fun x hx k => ?_)).conseq (ah _) fun x hx => ?_
 ·obtain ⟨t, i, T, Tb, ht, rfl⟩ := hx
  refine DV k c.z c.n t now (fun tx => TxN tx t) hc.n (fun rm => RmP rm ms) (fun rm => RmP rm ms.tail) (vE ms) (vD ms) ⟨ht, h⟩ (fun rm => ?_) (fun rx => ex fun xn : Int => (aa (SLA.lift (0 <= xn /\ xn <= t)) (RxP rx c.n c.z.rb c.z.ro c.z.rc c.sm i xn Tb)))
  cases ms with
  | nil => exact DO rm
  | cons d l => exact DN rm d l (by simp only [List.length_cons] at hl; omega)
 ·obtain ⟨t, i, T, Tb, ht, rfl⟩ := hx
  refine ⟨.q now i T [] Tb ms.tail, ⟨now, i, T, Tb, Int.le_refl _, rfl⟩, rfl, ?_⟩
  exact NetG.mono (fun k => K0.mono ht (kA.mono ht) k) (fun k => show Ent (KrP k c.z c.n 1 now none (some (I 3)) (fun tx => TxN tx t) (BxP c.z c.n c.sm i t Tb ms.tail)) (KrP k c.z c.n 1 now none (some (I 3)) (fun tx => TxN tx now) (BxP c.z c.n c.sm i now Tb ms.tail)) from hG (Int.le_refl _) (fun _ => TxN.mono ht) fun rx rm => BxP.mono ht) (fun k => K2.mono ht k) (fun k => sI.mono ht k) (fun k => sI.mono ht k)
theorem BW {nn : Int} (hc : NCH c) (hl : ms.length <= 100) (h : 0 <= nn /\ nn <= now /\ now <= 10000000) (hx : Inv c ms M T0 (nn - nn % 50) x /\ x.t <= nn) (ha : T0 + (M - 1) * c.P + 2 * c.sm + 90 <= now - now % 50) : FSpec prog 22 #[Pt nb 0, I now, I 1, .agg [I 3, I 20, Z, I 0].toArray] (eu c nb 3 id nn x) (fun x => DE now ms.tail x) (fun _ => .agg [I (vD ms), .string (vE ms), Ff, I 0].toArray) (fun x => eu c nb 3 id now x) :=
 BV hc hl ⟨by omega, h.2.2⟩ ((yA hc nn now x h hx).conseq (ah _) fun x' hx' => ⟨x', by
  obtain ⟨t, i, T, Tb, rfl⟩ := hx'.1.done hc ha
  exact ⟨t, i, T, Tb, hx'.2, rfl⟩, rfl, ah _⟩)
theorem GR (hc : NCH c) (hl : ms.length <= 100) (h : 0 <= now /\ now <= 10000000) (hx : DE now ms x) : FSpec prog 22 #[Pt nb 0, I now, I 1, .agg [I 3, I 20, Z, I 0].toArray] (eu c nb 3 id now x) (fun x => DE now ms.tail x) (fun _ => .agg [I (vD ms), .string (vE ms), Ff, I 0].toArray) (fun x => eu c nb 3 id now x) :=
 BV hc hl h ((pA (m0 := 3) (m1 := 3) now now x ⟨h.1, Int.le_refl _, h.2⟩ rfl).conseq (ah _) fun x' hx' => ⟨x', by rw [hx']; exact hx, rfl, ah _⟩)
theorem pO (hc : NCH c) (h : t <= a /\ 0 <= a /\ a <= 10000000) (hv : (eL vl).2 = 0) (hs : (eI ho g).2 = 0) (hq : 0 <= sq /\ sq <= 255) (hd : d.size <= 1499) (p : Nat) : FSpec prog 62 #[Pt p 0, I a, I 2, .string (aL vl ho g sq d), I 0] (sI c g t T p) (fun e : Int => e ≠ 0) (fun e => I e) (fun _ => sI c g a T p) :=
 FSpec.ex fun tn => aO fun ht => (Dx p c.n hc.n g c.sm c.bg c.P c.J tn T a vl ho sq d ⟨by omega, h.2.2⟩ hv hs hq hd).conseq (ah _) fun e he => ⟨e, he, rfl, exl (p := fun tn => tn <= a) (A := fun tn => SwI p c.n g c.sm c.bg c.P c.J tn T) a (Int.le_refl _)⟩
theorem wR {x : ByteArray} {xb xe : Int} (hc : NCH c) (h : t <= a /\ 0 <= a /\ a <= 10000000) (hv : (eL vl).2 = 0) (hs : (eI ho g).2 = 0) (hq : 0 <= sq /\ sq <= 255) (hd : d.size <= 1499) (p : Nat) : FSpec prog 62 #[Pt p 0, I a, I 2, .string (aL vl ho g sq d), I 0] (sB c g t T x xb xe p) (fun e : Int => e ≠ 0) (fun e => I e) (fun _ => sB c g a T x xb xe p) :=
 FSpec.ex fun tn => aO fun ht => (DA p c.n hc.n g c.sm c.bg c.P c.J tn T a vl ho sq d x xb xe ⟨by omega, h.2.2⟩ hv hs hq hd).conseq (ah _) fun e he => ⟨e, he, rfl, exl (p := fun tn => tn <= a) (A := fun tn => SwB p c.n g c.sm c.bg c.P c.J tn T x xb xe) a (Int.le_refl _)⟩
theorem Bas.at {i : Int} {S : List ByteArray} {Tb : TS} {rows : List ByteArray} (h : Bas c ms M T0 a t i T S Tb rows) (ht : t' < a + 50) : Bas c ms M T0 a t' i T S Tb rows := { h with tt := ht }
theorem Inv.at (h : Inv c ms M T0 a x) (ht : t' < a + 50) : Inv c ms M T0 a (x.at t') := by
 cases x with
 | q t i T R Tb rows => exact ⟨h.1.at ht, h.2⟩
 | l t i T R d Tb rows => exact ⟨h.1.at ht, h.2⟩
 | w t i T sa R d Tb rows => exact ⟨h.1.at ht, h.2⟩
theorem Im {c : NC} {nb : Nat} {id nn now M T0 g vl ho sq : Int} {d : ByteArray} {ms : List ByteArray} {x : NS} (hc : NCH c) (h : 0 <= nn /\ nn <= now /\ now <= 10000000) (hx : Inv c ms M T0 (nn - nn % 50) x /\ x.t <= nn) (hv : (eL vl).2 = 0) (hs : (eI ho g).2 = 0) (hq : 0 <= sq /\ sq <= 255) (hd : d.size <= 1499) :
  FSpec prog 21 #[Pt nb 0, I now, I 2, I g, .string (aL vl ho g sq d)] (eu c nb 3 id nn x) (fun r : NS × Int => (Inv c ms M T0 (now - now % 50) r.1 /\ r.1.t <= now) /\ r.2 ≠ 0) (fun r => I r.2) (fun r => eu c nb 3 id now r.1) := by
 have hg : g = 0 \/ g = 1 := by
  unfold eI at hs
  split at hs
  ·omega
  ·cases hs
 have hnow : 0 <= now /\ now <= 10000000 := by omega
 have fin : ∀ x : NS, Inv c ms M T0 (now - now % 50) x /\ x.t <= now -> Inv c ms M T0 (now - now % 50) (x.at now) /\ (x.at now).t <= now := fun x hx => ⟨hx.1.at (by omega), by cases x <;> exact Int.le_refl _⟩
 rcases hg with rfl | rfl
 ·refine (yH nb c.z c.n now (eu c nb 3 id nn x) (fC0 c 3 id) (fC1 c 3) (fC2 c) (fU c) (fV c) (yA hc nn now x h hx) (fun x => fU c (x.at now)) (aL vl ho 0 sq d) (fun x hx w => ?_)).conseq (ah _) fun r hr => ⟨(r.1.at now, r.2), ⟨fin _ hr.1, hr.2⟩, rfl, ?_⟩
  ·cases x with
   | q t i T R Tb rows => exact pO hc ⟨hx.2, hnow⟩ hv hs hq hd w
   | l t i T R d Tb rows => exact pO hc ⟨hx.2, hnow⟩ hv hs hq hd w
   | w t i T sa R d Tb rows => exact wR hc ⟨hx.2, hnow⟩ hv hs hq hd w
  ·exact NetG.mono (fC0.mono hr.1.2) (fC1.mono hr.1.2) (fC2.mono hr.1.2) (fun _ => ah _) (fV.mono hr.1.2)
 ·refine (yG nb c.z c.n now (eu c nb 3 id nn x) (fC0 c 3 id) (fC1 c 3) (fC2 c) (fU c) (fV c) (yA hc nn now x h hx) (fun x => fV c (x.at now)) (aL vl ho 1 sq d) (fun x hx w => ?_)).conseq (ah _) fun r hr => ⟨(r.1.at now, r.2), ⟨fin _ hr.1, hr.2⟩, rfl, ?_⟩
  ·cases x with
   | q t i T R Tb rows => exact pO hc ⟨hx.2, hnow⟩ hv hs hq hd w
   | l t i T R d Tb rows => exact pO hc ⟨hx.2, hnow⟩ hv hs hq hd w
   | w t i T sa R d Tb rows => exact wR hc ⟨hx.2, hnow⟩ hv hs hq hd w
  ·exact NetG.mono (fC0.mono hr.1.2) (fC1.mono hr.1.2) (fC2.mono hr.1.2) (fU.mono hr.1.2) (fun _ => ah _)
theorem uM {w : Int} (hc : NCH c) (h : Wrt c w ms x) (hw : 0 < w /\ w < 50) (hms : MsH c.sm 0 ms) (hl : ms.length <= 8) : Inv c ms (eJ c.sm 0 ms).length (if ms = [] then 0 else w) 0 x /\ x.t <= w := by
 have hp := lB hms
 have hds : ∀ {j : Int} {l : List ByteArray}, MsH c.sm j l -> ∀ d, d ∈ eJ c.sm j l -> d.size <= 1000 /\ (d.size : Int) + 19 <= c.sm := by
  intro j l
  induction l generalizing j with
  | nil => intro _ d hd; cases hd
  | cons m l ih =>
   intro hm d hd
   rcases List.mem_append.1 hd with hd | hd
   ·exact iK hm.1 d hd
   ·exact ih hm.2 d hd
 have pr : ∃ rest, ms = [] ++ rest /\ Prog c.sm (([] : List ByteArray).length : Nat) rest (eJ c.sm 0 ms) ⟨[], 0, 0⟩ /\ MsH c.sm (([] : List ByteArray).length : Nat) rest := ⟨ms, rfl, Prog.at 0 (Int.le_refl _), hms⟩
 match ms, h, hms, hl, hp, pr with
 | [], h, hms, hl, hp, pr =>
  obtain ⟨t, ht, rfl⟩ := h
  exact ⟨⟨⟨by omega, ⟨Int.le_refl _, by simp [eJ], by simp [eJ]⟩, ⟨by simp, by simp, by simp⟩, pr, by simp, (fun d hd => by cases hd), by simp⟩, .inl rfl⟩, Int.le_of_lt ht⟩
 | [m], h, hms, hl, hp, pr =>
  subst h
  have e : eJ c.sm 0 [m] = dq 0 c.sm m := List.append_nil _
  rw [e] at pr hp ⊢
  have hm := eT hms.1
  rw [if_neg (by simp)]
  exact ⟨⟨⟨by omega, ⟨Int.le_refl _, by omega, by omega⟩, ⟨by omega, by omega, by simp⟩, pr, by decide, fun d hd => iK hms.1 d hd, by omega⟩, .inr hw.1⟩, Int.le_refl _⟩
 | m1 :: m2 :: l, h, hms, hl, hp, pr =>
  obtain ⟨d, R, hdR, rfl⟩ := h
  have hz := cB 10 0 0 0 d
  rw [if_neg (by simp)]
  have hd := hds hms
  rw [<- hdR] at pr hd hp ⊢
  simp only [List.length_cons] at hp hl ⊢
  exact ⟨⟨⟨by omega, ⟨Int.le_refl _, by simp only [List.length_cons]; omega, by omega⟩, ⟨by omega, by omega, by simp⟩, pr, by decide, hd, by simp only [List.length_cons]; omega⟩, by omega⟩, Int.le_refl _⟩
end Sp
end
section
namespace Sp
open Mq
variable {ls : List ByteArray} {k : Nat} {m : ByteArray}
theorem Cj {prog : Program} {σ : World} {n : Nat} {E : Env} {P : ab} {d : Option Nat} {ty : TypeId} {pos : String} {aft : Array Edge} {g : Option (Nat × Bool)} {t : TypeId} {x : Operand} {f : Nat} {u v : Value} (hx : ev E x = some u) (h : ∀ w, (Instr.field t u f).run prog w = .ok v w) : OpV prog σ n E P ⟨d, .field t x f, ty, pos, aft, g⟩ v := by
 unfold OpV
 intro _ w ha _
 simp only [execOp, ha.ev hx, Sem.run_bind, h w, Result.andThen_ok, Sem.run_pure]
theorem FF (h : k = ls.length) : (if k = 0 then (1 : Int) else 2) = if ls = [] then 1 else 2 := by
 subst h
 cases ls <;> simp
def uw (ls : List ByteArray) : Prop := ∀ m, m ∈ ls -> m.size <= 100
theorem MsH.of {sm : Int} (hs : 80 <= sm /\ sm < 280) : ∀ {j : Int} {l : List ByteArray}, 0 <= j -> j + l.length <= 100 -> uw l -> MsH sm j l
 | j, [], _, _, _ => trivial
 | j, m :: l, hj, hl, h => by
  simp only [List.length_cons] at hl
  exact ⟨⟨hj, by omega, hs.1, hs.2, h m (List.mem_cons_self ..)⟩, MsH.of hs (by omega) (by omega) fun e he => h e (List.mem_cons_of_mem _ he)⟩
abbrev oM : NS := .q 0 0 0 [] ⟨[], 0, 0⟩ []
abbrev GV : NS := .q 1 0 0 [] ⟨[], 0, 0⟩ []
theorem jZ (c : NC) (nb : Nat) : FSpec Tryz.prog 19 #[Pt nb 0, I 1] (jy c nb 1 1 0 0 oM) (fun _ : Unit => True) (fun _ => .tuple #[]) (fun _ => eu c nb 3 0 1 GV) := by
 refine en Tryz.func19 r fun _ F=>sb r<|lv (af r) r<|cy (Gy (c := c) (nb := nb) (t := 0) (nn := 0) (a := 1) (m1 := 1) (T := 0) (R := []) (Tb := ⟨[], 0, 0⟩) (rows := []) (by decide)) r fun _=>nk<|jg<|eb r<|lv (af r) r<|cy (Gx (c := c) (nb := nb) (t := 1) (nn := 1) (a := 1) (m0 := 3) (T := 0) (R := []) (Tb := ⟨[], 0, 0⟩) (rows := []) (by decide)) r fun _=>ln ?_
 exact eG rfl () trivial rfl (ah _)
def H4 (c : NC) (nb : Nat) (ls : List ByteArray) (W : World) : Option NS -> ab
 | some x => (aa (eu c nb 3 (ls.length : Nat) (if ls = [] then 1 else 2) x) (old W))
 | none => old W
def H5 (c : NC) (ls : List ByteArray) : Option NS -> Prop
 | some x => uw ls /\ Wrt c 2 ls x
 | none => ¬ uw ls
theorem uU (h : ls[k]? = some m) : ls.take k ++ [m] = ls.take (k + 1) := by rw [List.take_add_one, h]; rfl
theorem Ax {c : NC} {nb : Nat} {x : NS} {W : World} (hc : NCH c) (hl : ls.length <= 8) (hm : ls[k]? = some m) (hs : m.size <= 100) (hk : uw (ls.take k)) (hx : Wrt c 2 (ls.take k) x) : FSpec Tryz.prog 22 #[Pt nb 0, I 2, I 0, .agg (qq47 m).toArray] (eu c nb 3 (k : Nat) (if k = 0 then 1 else 2) x) (fun x' => uw (ls.take (k + 1)) /\ Wrt c 2 (ls.take (k + 1)) x') (fun _ => .agg [I 0, Z, Ff, I 0].toArray) (fun x' => eu c nb 3 ((k + 1 : Nat) : Int) 2 x') := by
 have hkl := (List.getElem?_eq_some_iff.1 hm).1
 have htl : (ls.take k).length = k := by rw [List.length_take]; omega
 have hok : uw (ls.take k ++ [m]) := fun e he => by
  rcases List.mem_append.1 he with he | he
  ·exact hk e he
  ·rw [List.mem_singleton.1 he]; exact hs
 have hM : MsH c.sm 0 (ls.take k ++ [m]) := MsH.of hc.s (Int.le_refl _) (by rw [List.length_append, htl, List.length_singleton]; omega) hok
 have := Aw (nb := nb) (nn := if k = 0 then 1 else 2) (w := 2) hc hM (by omega) hx (by split <;> omega)
 rw [uU hm] at this hok
 rw [htl] at this
 refine this.conseq (ah _) fun x' hx' => ⟨x', ⟨hok, hx'⟩, rfl, ?_⟩
 rw [show (ls.take (k + 1)).length = k + 1 by rw [List.length_take]; omega]
 exact ah _
theorem sw (c : NC) (nb : Nat) (hc : NCH c) (W : World) (A : Option Addr) (cp : Nat) (ls : List ByteArray) (hR : RdS (old W) (fun m : ByteArray => [Value.string m]) 1 A ls) (hl : ls.length <= 8) : FSpec Tryz.prog 20 #[Pt nb 0, I 2, .slice A ls.length cp] ((aa (eu c nb 3 0 1 GV) (old W))) (fun r : Option NS => H5 c ls r) (fun r => .bool r.isSome) (fun r => H4 c nb ls W r) := by
 refine en Tryz.func20 rfl fun _ F=>aE rfl<|js<|aE rfl<|jb ?_
 refine bX (X := Nat × NS) (fun z => [(0, Pt nb 0), (1, I 2), (2, .slice A ls.length cp), (7, I (z.1 : Nat))]) (fun z => (aa (eu c nb 3 (z.1 : Nat) (if z.1 = 0 then 1 else 2) z.2) (aa (old W) (F)))) (fun z => z.1 <= ls.length /\ uw (ls.take z.1) /\ Wrt c 2 (ls.take z.1) z.2) (fun z => ls.length - z.1) ((0, GV)) ⟨Nat.zero_le _, (fun m hm => by cases hm), 1, by decide, rfl⟩ ⟨rfl, rfl, rfl, rfl, trivial⟩ (Ent.of (ak _ _ _)) (fun z hz => ?_)
 obtain ⟨hz1, hz2, hz3⟩ := hz
 rcases (show z.1 = ls.length \/ (z.1 < ls.length /\ ∀ m, ls[z.1]? = some m -> m.size <= 100) \/ (z.1 < ls.length /\ ¬ ∀ m, ls[z.1]? = some m -> m.size <= 100) from (Nat.eq_or_lt_of_le hz1).imp id fun h => (Classical.em _).imp (fun a => ⟨h, a⟩) (fun a => ⟨h, a⟩)) with he | ⟨hk, hs⟩ | ⟨hk, hs⟩
 ·refine js<|js ?_
  have hlz : (ls.length : Int) <= 8 := by omega
  refine jg<|eb rfl<|ll rfl<|bJ rfl<|nf rfl<|cx<|ke<|ke<|kh<|kt<|aE rfl<|jr ?_
  exact aD rfl rfl (some z.2) ⟨by rw [he, List.take_length] at hz2; exact hz2, by rw [he, List.take_length] at hz3; exact hz3⟩ rfl (by show Ent _ (aa ((aa (eu c nb 3 (ls.length : Nat) (if ls = [] then 1 else 2) z.2) (old W))) (F)); rw [FF he, he]; exact Ent.of (ak _ _ _).symm)
 ·refine js<|js ?_
  have hlz : (ls.length : Int) <= 8 := by omega
  refine jg<|eb rfl<|ll rfl<|eR rfl<|nt rfl<|sk<|js<|jb<|js ?_
  obtain ⟨m, hm⟩ : ∃ m, ls[z.1]? = some m := ⟨_, List.getElem?_eq_getElem hk⟩
  obtain ⟨b, o, rfl⟩ := hR.nonnil z.1 hk
  have hsm := hs m hm
  refine jg<|eb rfl<|lv (au rfl rfl (by omega)) rfl<|lv (ar rfl (bU (S := old W) (by have := hR.rd b o rfl z.1 m 0 (.string m) hm rfl; simpa using this))) rfl<|lv (aX rfl) rfl<|bJ rfl<|ea rfl<|go rfl<|ea rfl<|go rfl<|ea rfl<|go rfl<|ea rfl<|go rfl<|ea rfl<|go rfl<|lv (au rfl rfl (by omega)) rfl<|go rfl<|lv (ar rfl (bU (S := old W) (by have := hR.rd b o rfl z.1 m 0 (.string m) hm rfl; simpa using this))) rfl<|go rfl<|lv (af rfl) rfl<|go rfl<|lx rfl (ai (Ax (nb := nb) (W := W) hc hl hm hsm hz2 hz3) rfl rfl rfl) fun x1 hx1=>go rfl<|lv (Cj (v := I 0) rfl (fun w => by kernel_rfl)) rfl<|go rfl<|bJ rfl<|an rfl<|cf rfl<|cY<|jg<|ea rfl<|gE rfl<|ea rfl<|ln ?_
  exact bO ((z.1 + 1, x1)) ⟨hk, hx1.1, hx1.2⟩ (by dsimp only; omega) ⟨rfl, rfl, rfl, rfl, trivial⟩ (Ent.trans Ent.take (Ent.of (by rw [if_neg (by dsimp only; omega)])))
 ·refine js<|js ?_
  have hlz : (ls.length : Int) <= 8 := by omega
  refine jg<|eb rfl<|ll rfl<|eR rfl<|nt rfl<|sk<|js<|jb<|js ?_
  obtain ⟨m, hm⟩ : ∃ m, ls[z.1]? = some m := ⟨_, List.getElem?_eq_getElem hk⟩
  obtain ⟨b, o, rfl⟩ := hR.nonnil z.1 hk
  have hsm : ¬ m.size <= 100 := fun h => hs (fun m2 h2 => by rw [hm] at h2; cases h2; exact h)
  refine jg<|eb rfl<|lv (au rfl rfl (by omega)) rfl<|lv (ar rfl (bU (S := old W) (by have := hR.rd b o rfl z.1 m 0 (.string m) hm rfl; simpa using this))) rfl<|lv (aX rfl) rfl<|eR rfl<|ea rfl<|gk rfl<|gk rfl<|gk rfl<|gk rfl<|gk rfl<|gk rfl<|gk rfl<|gk rfl<|gk rfl<|gk rfl<|an rfl<|ct rfl<|aE rfl<|jr<|kq<|kd<|kd<|kq<|kd ?_
  exact aD rfl rfl none (fun h => hsm (h m (List.mem_of_getElem? hm))) rfl (Ent.take (Q := (aa (old W) (F))))
end Sp
end
section
namespace Sp
open Mq
variable {c : NC} {ls : List ByteArray} {x : NS}
structure Lf where
 vl : Int
 ho : Int
 nt : Int
 sq : Int
 d : ByteArray
def encLf (x : Lf) : List Value := [I x.vl, I x.ho, I x.nt, I x.sq, .string x.d]
def okLf (x : Lf) : Prop := (Lit.int .i64 x.vl).wf = true /\ (Lit.int .i64 x.ho).wf = true /\ (Lit.int .i64 x.nt).wf = true /\ (Lit.int .i64 x.sq).wf = true /\ x.d.size <= maxLen
abbrev ksLf : List CK := [.int .i64, .int .i64, .int .i64, .int .i64, .str]
theorem decLf (cs : List Value) (h : Kinds ksLf cs) : ∃ x, cs = encLf x /\ okLf x := by
 obtain ⟨hl, hk⟩ := h
 obtain ⟨v0, g0, x0, rfl, w0⟩ := hk 0 _ rfl
 obtain ⟨v1, g1, x1, rfl, w1⟩ := hk 1 _ rfl
 obtain ⟨v2, g2, x2, rfl, w2⟩ := hk 2 _ rfl
 obtain ⟨v3, g3, x3, rfl, w3⟩ := hk 3 _ rfl
 obtain ⟨v4, g4, x4, rfl, w4⟩ := hk 4 _ rfl
 match cs, hl with
 | [c0, c1, c2, c3, c4], _ =>
  simp only [List.getElem?_cons_zero, List.getElem?_cons_succ, Option.some.injEq] at g0 g1 g2 g3 g4
  exact ⟨⟨x0, x1, x2, x3, x4⟩, by simp only [encLf, *], ⟨w0, w1, w2, w3, w4⟩⟩
def RS (c : NC) (ls : List ByteArray) (M T0 : Int) (i : Nat) (nn : Int) (x : NS) : Prop := (i = 0 /\ (0 <= nn /\ nn <= 2000000) /\ Inv c ls M T0 (nn - nn % 50) x /\ x.t <= nn) \/ (0 < i /\ nn = 2000000 /\ DE 2000000 (ls.drop i) x)
theorem ma {nb : Nat} {id M T0 nn : Int} {i : Nat} (hc : NCH c) (hl : ls.length <= 8) (h : RS c ls M T0 i nn x) (hM : T0 + (M - 1) * c.P + 2 * c.sm + 90 <= 2000000) : FSpec prog 22 #[Pt nb 0, I 2000000, I 1, .agg [I 3, I 20, Z, I 0].toArray] (eu c nb 3 id nn x) (fun x' => RS c ls M T0 (i + 1) 2000000 x') (fun _ => .agg [I (vD (ls.drop i)), .string (vE (ls.drop i)), Ff, I 0].toArray) (fun x' => eu c nb 3 id 2000000 x') := by
 have fin : ∀ x', DE 2000000 (ls.drop i).tail x' -> RS c ls M T0 (i + 1) 2000000 x' := fun x' hx => .inr ⟨by omega, rfl, by rw [List.tail_drop] at hx; exact hx⟩
 rcases h with ⟨rfl, h1, h2⟩ | ⟨h1, rfl, h2⟩
 ·exact (BW (ms := ls) hc (by omega) ⟨h1.1, h1.2, by decide⟩ h2 (by omega)).conseq (ah _) fun x' hx => ⟨x', fin x' hx, rfl, ah _⟩
 ·exact (GR (ms := ls.drop i) hc (by rw [List.length_drop]; omega) (by decide) h2).conseq (ah _) fun x' hx => ⟨x', fin x' hx, rfl, ah _⟩
theorem pw (c : NC) (nb : Nat) (hc : NCH c) (W : World) (A : Option Addr) (cp : Nat) (ls : List ByteArray) (hR : RdS (old W) (fun m : ByteArray => [Value.string m]) 1 A ls) (hl : ls.length <= 8) (ho : uw ls) : FSpec prog 20 #[Pt nb 0, I 2, .slice A ls.length cp] (aa (eu c nb 3 0 1 GV) (old W)) (fun x => Wrt c 2 ls x) (fun _ => Tt) (fun x => (aa (eu c nb 3 (ls.length : Nat) (if ls = [] then 1 else 2) x) (old W))) :=
 (sw c nb hc W A cp ls hR hl).conseq (ah _) fun r hr => by
  cases r with
  | none => exact absurd ho hr
  | some x => exact ⟨x, hr.2, rfl, ah _⟩
theorem vL (c : NC) (nb : Nat) (hc : NCH c) (W : World) (A : Option Addr) (cp : Nat) (ls : List ByteArray) (hR : RdS (old W) (fun m : ByteArray => [Value.string m]) 1 A ls) (hl : ls.length <= 8) (ho : ¬ uw ls) : Go.SLA.Sp prog 20 #[Pt nb 0, I 2, .slice A ls.length cp] (aa (eu c nb 3 0 1 GV) (old W)) (Ff) (old W) :=
 (sw c nb hc W A cp ls hR hl).conseq (ah _) fun r hr => by
  cases r with
  | none => exact ⟨(), trivial, rfl, ah _⟩
  | some x => exact absurd hr.1 ho
theorem RS.of (hc : NCH c) (h : Wrt c 2 ls x) (ho : uw ls) (hl : ls.length <= 8) : Inv c ls (eJ c.sm 0 ls).length (if ls = [] then 0 else 2) ((if ls = [] then 1 else 2) - (if ls = [] then 1 else 2) % 50) x /\ x.t <= (if ls = [] then 1 else 2) := by
 have := uM hc h (by decide) (MsH.of hc.s (Int.le_refl _) (by omega) ho) hl
 cases ls with
 | nil =>
  obtain ⟨t, ht, rfl⟩ := h
  rw [if_pos rfl] at this ⊢
  rw [if_pos rfl, show (1 : Int) - 1 % 50 = 0 by decide]
  exact ⟨this.1, by show t <= 1; omega⟩
 | cons m l =>
  rw [if_neg (by simp)] at this ⊢
  rw [if_neg (by simp)]
  exact this
set_option maxHeartbeats 800000 in
theorem Ie (L0 S0 G0 : Int) (Y : Type) (V : Y -> Value) (H : Y -> ab) (hB : FSpec prog 18 #[.agg [I L0, I S0, I G0].toArray] emp (fun _ : Y => True) V H) (hN : ∀ y, FSpec prog 17 #[V y] (H y) (fun r : NC × Nat => NCH r.1) (fun r => .tuple #[Pt r.2 0, I 0]) (fun r => jy r.1 r.2 1 1 0 0 oM)) (hAw : FSpec prog 7 #[] emp (fun _ : Unit => True) (fun _ => Tt) (fun _ => emp)) (W : World) (A Ae : Option Addr) (cp ce : Nat) (ls : List ByteArray) (es : List Lf) (hcp : ls.length <= 9223372036854775807 /\ es.length <= 9223372036854775807) (hb : 8 < ls.length) : FSpec prog 4 #[.agg [I L0, I S0, I G0].toArray, .slice A ls.length cp, .slice Ae es.length ce] (old W) (fun _ : Unit => True) (fun _ => Tt) (fun _ => old W) := by
 refine eH func4 rfl ntmps4 rfl fun _ F=>bb<|aJ ?_
 refine fp rfl (aV (l := [I L0, I S0, I G0]) rfl rfl) (fun b3 _ => ?_)
 refine aT (aH rfl) rfl<|bF<|aS<|bb<|aJ<|aT (ax rfl) rfl ?_
 refine fp rfl (ai (hB) rfl rfl rfl) (fun ya _ => ?_)
 refine fp rfl (ai (hN ya) rfl rfl rfl) (fun ra hra => ?_)
 refine aT (ao rfl) rfl<|aT (ap (v := Pt ra.2 0) rfl rfl) rfl<|aT (ap (v := I 0) rfl rfl) rfl<|aT (aH rfl) rfl<|aT (aH rfl) rfl<|bF<|aS<|bb<|aJ<|aT (ax rfl) rfl ?_
 refine fp rfl (ai (hB) rfl rfl rfl) (fun yb _ => ?_)
 refine fp rfl (ai (hN yb) rfl rfl rfl) (fun rb hrb => ?_)
 refine aT (ao rfl) rfl<|aT (ap (v := Pt rb.2 0) rfl rfl) rfl<|aT (ap (v := I 0) rfl rfl) rfl<|aT (aH rfl) rfl<|aT (aH rfl) rfl<|bF<|aS<|bb<|bb<|aJ<|aT (ao rfl) rfl<|bJ rfl<|aT (ao rfl) rfl<|bK rfl rfl rfl<|aT (ao rfl) rfl<|bK rfl rfl rfl<|bJ rfl<|aT (bv rfl rfl) rfl<|aT (ao rfl) rfl<|bK rfl rfl rfl<|aT (ao rfl) rfl<|bK rfl rfl rfl<|aT ((bj rfl rfl).as (v' := Ff) rfl) rfl<|aT (bv rfl rfl) rfl<|aT (ao rfl) rfl<|bK rfl rfl rfl<|aT (ao rfl) rfl<|bK rfl rfl rfl<|aT ((bj rfl rfl).as (v' := Ff) rfl) rfl<|aT (bv rfl rfl) rfl<|aT (ao rfl) rfl<|bK rfl rfl rfl<|aT (ao rfl) rfl<|bK rfl rfl rfl<|aT (bC rfl) rfl<|bK rfl rfl rfl<|eR rfl<|aT (bv rfl rfl) rfl<|aT (ao rfl) rfl<|gk rfl<|gk rfl<|gk rfl<|aT (de rfl rfl) rfl<|bF<|aS<|dG rfl<|bb<|aJ<|aT (ao rfl) rfl<|aT ((cv rfl rfl).bool_t rfl) rfl<|aT (ao rfl) rfl<|bK rfl rfl rfl<|aT (ao rfl) rfl<|bK rfl rfl rfl<|aT ((cv rfl rfl).bool_t rfl) rfl<|aT (de rfl rfl) rfl<|aT (ao rfl) rfl<|bK rfl rfl rfl<|aT (ao rfl) rfl<|bK rfl rfl rfl<|aT ((fO rfl rfl).as (v' := Tt) rfl) rfl<|aT (de rfl rfl) rfl<|aT (ao rfl) rfl<|bK rfl rfl rfl ?_
 refine aT (ao rfl) rfl<|bK rfl rfl rfl<|aT ((fO rfl rfl).as (v' := Tt) rfl) rfl<|aT (de rfl rfl) rfl<|aT (ao rfl) rfl<|bK rfl rfl rfl ?_
 refine fp rfl (ai (hAw) rfl rfl rfl) (fun _ _ => ?_)
 refine cj<|aT (de rfl rfl) rfl<|aT (aH rfl) rfl<|bF<|aS<|me<|dD ?_
 exact aD rfl rfl () trivial rfl (Ent.take (Q := (aa (old W) (F))))
set_option maxHeartbeats 800000 in
theorem Id (L0 S0 G0 : Int) (Y : Type) (V : Y -> Value) (H : Y -> ab) (hB : FSpec prog 18 #[.agg [I L0, I S0, I G0].toArray] emp (fun _ : Y => True) V H) (hN : ∀ y, FSpec prog 17 #[V y] (H y) (fun r : NC × Nat => NCH r.1) (fun r => .tuple #[Pt r.2 0, I 0]) (fun r => jy r.1 r.2 1 1 0 0 oM)) (hAw : FSpec prog 7 #[] emp (fun _ : Unit => True) (fun _ => Tt) (fun _ => emp)) (W : World) (A Ae : Option Addr) (cp ce : Nat) (ls : List ByteArray) (es : List Lf) (hcp : ls.length <= 9223372036854775807 /\ es.length <= 9223372036854775807) (hb : ls.length <= 8) (hb2 : 20 < es.length) : FSpec prog 4 #[.agg [I L0, I S0, I G0].toArray, .slice A ls.length cp, .slice Ae es.length ce] (old W) (fun _ : Unit => True) (fun _ => Tt) (fun _ => old W) := by
 refine eH func4 rfl ntmps4 rfl fun _ F=>bb<|aJ ?_
 refine fp rfl (aV (l := [I L0, I S0, I G0]) rfl rfl) (fun b3 _ => ?_)
 refine aT (aH rfl) rfl<|bF<|aS<|bb<|aJ<|aT (ax rfl) rfl ?_
 refine fp rfl (ai (hB) rfl rfl rfl) (fun ya _ => ?_)
 refine fp rfl (ai (hN ya) rfl rfl rfl) (fun ra hra => ?_)
 refine aT (ao rfl) rfl<|aT (ap (v := Pt ra.2 0) rfl rfl) rfl<|aT (ap (v := I 0) rfl rfl) rfl<|aT (aH rfl) rfl<|aT (aH rfl) rfl<|bF<|aS<|bb<|aJ<|aT (ax rfl) rfl ?_
 refine fp rfl (ai (hB) rfl rfl rfl) (fun yb _ => ?_)
 refine fp rfl (ai (hN yb) rfl rfl rfl) (fun rb hrb => ?_)
 refine aT (ao rfl) rfl<|aT (ap (v := Pt rb.2 0) rfl rfl) rfl<|aT (ap (v := I 0) rfl rfl) rfl<|aT (aH rfl) rfl<|aT (aH rfl) rfl<|bF<|aS<|bb<|bb<|aJ<|aT (ao rfl) rfl<|bJ rfl<|aT (ao rfl) rfl<|bK rfl rfl rfl<|aT (ao rfl) rfl<|bK rfl rfl rfl<|bJ rfl<|aT (bv rfl rfl) rfl<|aT (ao rfl) rfl<|bK rfl rfl rfl<|aT (ao rfl) rfl<|bK rfl rfl rfl<|aT ((bj rfl rfl).as (v' := Ff) rfl) rfl<|aT (bv rfl rfl) rfl<|aT (ao rfl) rfl<|bK rfl rfl rfl<|aT (ao rfl) rfl<|bK rfl rfl rfl<|aT ((bj rfl rfl).as (v' := Ff) rfl) rfl<|aT (bv rfl rfl) rfl<|aT (ao rfl) rfl<|bK rfl rfl rfl<|aT (ao rfl) rfl<|bK rfl rfl rfl<|aT (bC rfl) rfl<|bK rfl rfl rfl<|bJ rfl<|aT (bv rfl rfl) rfl<|aT (ao rfl) rfl<|bK rfl rfl rfl<|aT (ao rfl) rfl<|bK rfl rfl rfl<|aT (bC rfl) rfl<|bK rfl rfl rfl<|eR rfl<|aT (bv rfl rfl) rfl<|bF<|aS<|dG rfl<|bb<|aJ<|aT (ao rfl) rfl<|aT ((cv rfl rfl).bool_t rfl) rfl<|aT (ao rfl) rfl<|bK rfl rfl rfl<|aT (ao rfl) rfl<|bK rfl rfl rfl<|aT ((cv rfl rfl).bool_t rfl) rfl<|aT (de rfl rfl) rfl<|aT (ao rfl) rfl<|bK rfl rfl rfl<|aT (ao rfl) rfl<|bK rfl rfl rfl<|aT ((fO rfl rfl).as (v' := Tt) rfl) rfl ?_
 refine aT (de rfl rfl) rfl<|aT (ao rfl) rfl<|bK rfl rfl rfl<|aT (ao rfl) rfl<|bK rfl rfl rfl<|aT ((fO rfl rfl).as (v' := Tt) rfl) rfl<|aT (de rfl rfl) rfl<|aT (ao rfl) rfl<|bK rfl rfl rfl ?_
 refine fp rfl (ai (hAw) rfl rfl rfl) (fun _ _ => ?_)
 refine cj<|aT (de rfl rfl) rfl<|aT (aH rfl) rfl<|bF<|aS<|me<|dD ?_
 exact aD rfl rfl () trivial rfl (Ent.take (Q := (aa (old W) (F))))
set_option maxHeartbeats 800000 in
theorem Ic (L0 S0 G0 : Int) (Y : Type) (V : Y -> Value) (H : Y -> ab) (hB : FSpec prog 18 #[.agg [I L0, I S0, I G0].toArray] emp (fun _ : Y => True) V H) (hN : ∀ y, FSpec prog 17 #[V y] (H y) (fun r : NC × Nat => NCH r.1) (fun r => .tuple #[Pt r.2 0, I 0]) (fun r => jy r.1 r.2 1 1 0 0 oM)) (hAw : FSpec prog 7 #[] emp (fun _ : Unit => True) (fun _ => Tt) (fun _ => emp)) (W : World) (A Ae : Option Addr) (cp ce : Nat) (ls : List ByteArray) (es : List Lf) (hcp : ls.length <= 9223372036854775807 /\ es.length <= 9223372036854775807) (hR : RdS (old W) (fun m : ByteArray => [Value.string m]) 1 A ls) (hb : ls.length <= 8) (hb2 : es.length <= 20) (ho : ¬ uw ls) : FSpec prog 4 #[.agg [I L0, I S0, I G0].toArray, .slice A ls.length cp, .slice Ae es.length ce] (old W) (fun _ : Unit => True) (fun _ => Tt) (fun _ => old W) := by
 refine eH func4 rfl ntmps4 rfl fun _ F=>bb<|aJ ?_
 refine fp rfl (aV (l := [I L0, I S0, I G0]) rfl rfl) (fun b3 _ => ?_)
 refine aT (aH rfl) rfl<|bF<|aS<|bb<|aJ<|aT (ax rfl) rfl ?_
 refine fp rfl (ai (hB) rfl rfl rfl) (fun ya _ => ?_)
 refine fp rfl (ai (hN ya) rfl rfl rfl) (fun ra hra => ?_)
 refine aT (ao rfl) rfl<|aT (ap (v := Pt ra.2 0) rfl rfl) rfl<|aT (ap (v := I 0) rfl rfl) rfl<|aT (aH rfl) rfl<|aT (aH rfl) rfl<|bF<|aS<|bb<|aJ<|aT (ax rfl) rfl ?_
 refine fp rfl (ai (hB) rfl rfl rfl) (fun yb _ => ?_)
 refine fp rfl (ai (hN yb) rfl rfl rfl) (fun rb hrb => ?_)
 refine aT (ao rfl) rfl<|aT (ap (v := Pt rb.2 0) rfl rfl) rfl<|aT (ap (v := I 0) rfl rfl) rfl<|aT (aH rfl) rfl<|aT (aH rfl) rfl<|bF<|aS<|bb<|bb<|aJ<|aT (ao rfl) rfl<|bJ rfl<|aT (ao rfl) rfl<|bK rfl rfl rfl<|aT (ao rfl) rfl<|bK rfl rfl rfl<|bJ rfl<|aT (bv rfl rfl) rfl<|aT (ao rfl) rfl<|bK rfl rfl rfl<|aT (ao rfl) rfl<|bK rfl rfl rfl<|aT ((bj rfl rfl).as (v' := Ff) rfl) rfl<|aT (bv rfl rfl) rfl<|aT (ao rfl) rfl<|bK rfl rfl rfl<|aT (ao rfl) rfl<|bK rfl rfl rfl<|aT ((bj rfl rfl).as (v' := Ff) rfl) rfl<|aT (bv rfl rfl) rfl<|aT (ao rfl) rfl<|bK rfl rfl rfl<|aT (ao rfl) rfl<|bK rfl rfl rfl<|aT (bC rfl) rfl<|bK rfl rfl rfl<|bJ rfl<|aT (bv rfl rfl) rfl<|aT (ao rfl) rfl<|bK rfl rfl rfl<|aT (ao rfl) rfl<|bK rfl rfl rfl<|aT (bC rfl) rfl<|bK rfl rfl rfl<|bJ rfl<|aT (bv rfl rfl) rfl<|bF<|aS<|dc rfl<|ew<|aS<|bb<|aJ<|aT (ao rfl) rfl ?_
 refine fp rfl (ai (jZ ra.1 ra.2) rfl rfl rfl) (fun _ _ => ?_)
 refine bF<|aS<|bb<|aJ<|aT (ao rfl) rfl ?_
 refine fp rfl (ai (jZ rb.1 rb.2) rfl rfl rfl) (fun _ _ => ?_)
 refine bF<|aS<|bb<|bb<|aJ<|aT (ao rfl) rfl<|aT (ao rfl) rfl ?_
 refine fp rfl (ai (vL ra.1 ra.2 hra W A cp ls hR hb ho) rfl rfl rfl) (fun _ _ => ?_)
 refine aT ((fF rfl).as (v' := Tt) rfl) rfl<|aT (ao rfl) rfl<|gk rfl<|gk rfl<|gk rfl<|gk rfl<|aT (de rfl rfl) rfl<|bF<|aS<|dG rfl<|bb<|aJ ?_
 refine fp rfl (ai (hAw) rfl rfl rfl) (fun _ _ => ?_)
 refine cj<|aT (aH rfl) rfl<|bF<|aS<|me<|dD ?_
 exact aD rfl rfl () trivial rfl (Ent.take (Q := (aa (old W) (F))))
end Sp
end
end Go.Proofs.YtpkcniedaabpoaaGreat
