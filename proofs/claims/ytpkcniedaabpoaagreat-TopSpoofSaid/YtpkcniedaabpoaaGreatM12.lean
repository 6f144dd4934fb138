/- Rules of a separation logic over the model, and what functions of the translation do; used by the texts that import this one. -/
import Derived.Test.YtpkcniedaabpoaaGreatM11
set_option linter.unusedVariables false
set_option linter.unusedSimpArgs false
namespace Go.Proofs.YtpkcniedaabpoaaGreat
open Go.SLA Go.Proofs.Tryz
set_option maxRecDepth 100000
set_option synthInstance.maxSize 200000
set_option synthInstance.maxHeartbeats 4000000
set_option maxHeartbeats 8000000
attribute [local irreducible] FSpec J K L OpV OpX QL Rd Rg bd
section
namespace Sp
open Mq
variable {c : NC} {ls : List ByteArray}
theorem RS.zero {M T0 nn : Int} {x : NS} (h : 0 <= nn /\ nn <= 2000000) (hx : Inv c ls M T0 (nn - nn % 50) x /\ x.t <= nn) : RS c ls M T0 0 nn x := .inl ⟨rfl, h, hx⟩
theorem Ad {k : Nat} {m : ByteArray} (h : ls[k]? = some m) : ls.drop k = m :: ls.drop (k + 1) := by
 obtain ⟨hk, rfl⟩ := List.getElem?_eq_some_iff.1 h
 exact List.drop_eq_getElem_cons hk
theorem Ix (hc : NCH c) (ho : uw ls) (hl : ls.length <= 8) : (if ls = [] then 0 else 2 : Int) + (((eJ c.sm 0 ls).length : Int) - 1) * c.P + 2 * c.sm + 90 <= 2000000 := by
 have h1 := lB (MsH.of hc.s (Int.le_refl _) (by omega) ho)
 have hs := hc.s
 have hbp := hc.bp
 have h2 : (((eJ c.sm 0 ls).length : Int) - 1) * c.P <= 23 * c.P := Int.mul_le_mul_of_nonneg_right (by omega) (by omega)
 split <;> omega
set_option maxHeartbeats 4000000 in
theorem GM (L0 S0 G0 : Int) (Y : Type) (V : Y -> Value) (H : Y -> ab) (hB : FSpec prog 18 #[.agg [I L0, I S0, I G0].toArray] emp (fun _ : Y => True) V H) (hN : ∀ y, FSpec prog 17 #[V y] (H y) (fun r : NC × Nat => NCH r.1) (fun r => .tuple #[Pt r.2 0, I 0]) (fun r => jy r.1 r.2 1 1 0 0 oM)) (hAw : FSpec prog 7 #[] emp (fun _ : Unit => True) (fun _ => Tt) (fun _ => emp)) (W : World) (A Ae : Option Addr) (cp ce : Nat) (ls : List ByteArray) (es : List Lf) (hcp : ls.length <= 9223372036854775807 /\ es.length <= 9223372036854775807) (hR : RdS (old W) (fun m : ByteArray => [Value.string m]) 1 A ls) (hE : RdS (old W) encLf 5 Ae es) (hes : ∀ e ∈ es, okLf e) (hb : ls.length <= 8) (hb2 : es.length <= 20) (ho : uw ls) : FSpec prog 4 #[.agg [I L0, I S0, I G0].toArray, .slice A ls.length cp, .slice Ae es.length ce] (old W) (fun _ : Unit => True) (fun _ => Tt) (fun _ => old W) := by
 refine eH func4 rfl ntmps4 rfl fun _ F=>bb<|aJ ?_
 refine fp rfl (aV (l := [I L0, I S0, I G0]) rfl rfl) (fun b3 _ => ?_)
 refine aT (aH rfl) rfl<|bF<|aS<|bb<|aJ<|aT (ax rfl) rfl ?_
 refine fp rfl (ai (hB) rfl rfl rfl) (fun ya _ => ?_)
 refine fp rfl (ai (hN ya) rfl rfl rfl) (fun ra hra => ?_)
 refine aT (ao rfl) rfl<|aT (ap (v := Pt ra.2 0) rfl rfl) rfl<|aT (ap (v := I 0) rfl rfl) rfl<|aT (aH rfl) rfl<|aT (aH rfl) rfl<|bF<|aS<|bb<|aJ<|aT (ax rfl) rfl ?_
 refine fp rfl (ai (hB) rfl rfl rfl) (fun yb _ => ?_)
 refine fp rfl (ai (hN yb) rfl rfl rfl) (fun rb hrb => ?_)
 refine aT (ao rfl) rfl<|aT (ap (v := Pt rb.2 0) rfl rfl) rfl<|aT (ap (v := I 0) rfl rfl) rfl<|aT (aH rfl) rfl<|aT (aH rfl) rfl<|bF<|aS<|bb<|bb<|aJ<|aT (ao rfl) rfl<|bJ rfl<|aT (ao rfl) rfl<|bK rfl rfl rfl<|aT (ao rfl) rfl<|bK rfl rfl rfl<|bJ rfl<|aT (bv rfl rfl) rfl<|aT (ao rfl) rfl<|bK rfl rfl rfl<|aT (ao rfl) rfl<|bK rfl rfl rfl<|aT ((bj rfl rfl).as (v' := Ff) rfl) rfl<|aT (bv rfl rfl) rfl<|aT (ao rfl) rfl<|bK rfl rfl rfl<|aT (ao rfl) rfl<|bK rfl rfl rfl<|aT ((bj rfl rfl).as (v' := Ff) rfl) rfl<|aT (bv rfl rfl) rfl<|aT (ao rfl) rfl<|bK rfl rfl rfl<|aT (ao rfl) rfl<|bK rfl rfl rfl<|aT (bC rfl) rfl<|bK rfl rfl rfl<|bJ rfl<|aT (bv rfl rfl) rfl<|aT (ao rfl) rfl<|bK rfl rfl rfl<|aT (ao rfl) rfl<|bK rfl rfl rfl<|aT (bC rfl) rfl<|bK rfl rfl rfl<|bJ rfl<|aT (bv rfl rfl) rfl<|bF<|aS<|dc rfl<|ew<|aS<|bb<|aJ<|aT (ao rfl) rfl ?_
 refine fp rfl (ai (jZ ra.1 ra.2) rfl rfl rfl) (fun _ _ => ?_)
 refine bF<|aS<|bb<|aJ<|aT (ao rfl) rfl ?_
 refine fp rfl (ai (jZ rb.1 rb.2) rfl rfl rfl) (fun _ _ => ?_)
 refine bF<|aS<|bb<|bb<|aJ<|aT (ao rfl) rfl<|aT (ao rfl) rfl ?_
 refine fp rfl (ai (pw ra.1 ra.2 hra W A cp ls hR hb ho) rfl rfl rfl) (fun xa hxa => ?_)
 refine aT ((fF rfl).as (v' := Ff) rfl) rfl<|aT (ao rfl) rfl<|bK rfl rfl rfl<|aT (ao rfl) rfl<|bK rfl rfl rfl<|aT (ao rfl) rfl<|bK rfl rfl rfl ?_
 refine fp rfl (ai (pw rb.1 rb.2 hrb W A cp ls hR hb ho) rfl rfl rfl) (fun xb hxb => ?_)
 refine bK rfl rfl rfl<|aT ((fF rfl).as (v' := Ff) rfl) rfl<|aT (bv rfl rfl) rfl<|bF<|aS<|dc rfl<|ew<|aS<|bb<|bb ?_
 have hnn : ((if ls = [] then 1 else 2) : Int) = 1 \/ ((if ls = [] then 1 else 2) : Int) = 2 := by split <;> simp
 refine aJ<|aT (aH rfl) rfl<|bF<|aS<|dB ?_
 refine bX (X := Nat × Int × NS) (fun z => [(1, .slice A ls.length cp), (2, .slice Ae es.length ce), (7, Pt ra.2 0), (9, Pt rb.2 0), (11, I (z.1 : Nat))]) (fun z => (aa (eu rb.1 rb.2 3 (ls.length : Nat) z.2.1 z.2.2) (aa (eu ra.1 ra.2 3 (ls.length : Nat) (if ls = [] then 1 else 2) xa) (aa (old W) (F))))) (fun z => z.1 <= es.length /\ (0 <= z.2.1 /\ z.2.1 <= 100 * (z.1 : Nat) + 2) /\ (Inv rb.1 ls ((eJ rb.1.sm 0 ls).length : Int) (if ls = [] then 0 else 2) (z.2.1 - z.2.1 % 50) z.2.2 /\ z.2.2.t <= z.2.1)) (fun z => es.length - z.1) ((0, (if ls = [] then 1 else 2), xb)) ⟨Nat.zero_le _, ⟨by dsimp only; omega, by dsimp only; omega⟩, RS.of hrb hxb ho hb⟩ ⟨rfl, rfl, rfl, rfl, rfl, trivial⟩ Ent.take (fun z hz => ?_)
 obtain ⟨hz1, hz2, hz3⟩ := hz
 rcases (show z.1 = es.length \/ z.1 < es.length from Nat.eq_or_lt_of_le hz1) with he0 | hk
 ·refine bb ?_
  refine bb<|aJ<|aT (ao rfl) rfl<|aT (ao rfl) rfl<|aT (bC rfl) rfl<|bJ rfl<|bF<|aS<|dc rfl<|cx<|cD<|cD<|dF<|aS<|bb<|bb ?_
  have hMa := Ix hra ho hb
  have hMb := Ix hrb ho hb
  generalize hzq : z = zb at *
  have hzb3 := hz3
  have hzb2 := hz2
  clear hz1 hz2 hz3
  refine aJ<|aT (aH rfl) rfl<|bF<|aS<|dB ?_
  refine bX (X := Nat × (Int × NS) × Int × NS) (fun z => [(1, .slice A ls.length cp), (7, Pt ra.2 0), (9, Pt rb.2 0), (15, I (z.1 : Nat))]) (fun z => (aa (eu ra.1 ra.2 3 (ls.length : Nat) z.2.1.1 z.2.1.2) (aa (eu rb.1 rb.2 3 (ls.length : Nat) z.2.2.1 z.2.2.2) (aa (old W) (F))))) (fun z => z.1 <= ls.length + 1 /\ RS ra.1 ls ((eJ ra.1.sm 0 ls).length : Int) (if ls = [] then 0 else 2) z.1 z.2.1.1 z.2.1.2 /\ RS rb.1 ls ((eJ rb.1.sm 0 ls).length : Int) (if ls = [] then 0 else 2) z.1 z.2.2.1 z.2.2.2) (fun z => ls.length + 1 - z.1) ((0, ((if ls = [] then 1 else 2), xa), (zb.2.1, zb.2.2))) ⟨Nat.zero_le _, RS.zero (by dsimp only; omega) (RS.of hra hxa ho hb), RS.zero (by dsimp only; omega) hzb3⟩ ⟨rfl, rfl, rfl, rfl, trivial⟩ Ent.take (fun z hz => ?_)
  obtain ⟨hz1, hz2, hz3⟩ := hz
  rcases (show z.1 = ls.length + 1 \/ z.1 = ls.length \/ z.1 < ls.length by omega) with he0 | he0 | hk
  ·refine bb ?_
   refine bb<|aJ<|aT (ao rfl) rfl<|aT (ao rfl) rfl<|aT (bC rfl) rfl<|bJ rfl<|bF<|aS<|dc rfl<|cx<|cD<|cD<|dF<|aS<|bb<|aJ ?_
   refine fp rfl (ai (hAw) rfl rfl rfl) (fun _ _ => ?_)
   refine cj<|aT (aH rfl) rfl<|bF<|aS<|me ?_
   exact aD rfl rfl () trivial rfl (Ent.take (Q := (aa (old W) (F))))
  ·refine bb ?_
   refine bb<|aJ<|aT (ao rfl) rfl<|aT (ao rfl) rfl<|aT (bC rfl) rfl<|eR rfl<|bF<|aS<|dG rfl<|ew<|aS<|bb<|dB<|bb ?_
   have hdr : ls.drop z.1 = [] := List.drop_eq_nil_of_le (by omega)
   refine aJ<|aT (ao rfl) rfl<|aT (af rfl) rfl ?_
   refine fp rfl (ai (ma (c := ra.1) (nb := ra.2) (id := (ls.length : Nat)) (M := ((eJ ra.1.sm 0 ls).length : Int)) (T0 := (if ls = [] then 0 else 2)) (nn := z.2.1.1) (ls := ls) (i := z.1) (x := z.2.1.2) hra hb hz2 hMa) rfl rfl rfl) (fun ua hua => ?_)
   refine fp rfl (bq rfl) (fun b16 _ => ?_)
   refine fp rfl (dU rfl rfl rfl) (fun _ _ => ?_)
   refine bF<|aS<|bb<|aJ<|aT (ao rfl) rfl<|aT (af rfl) rfl ?_
   refine fp rfl (ai (ma (c := rb.1) (nb := rb.2) (id := (ls.length : Nat)) (M := ((eJ rb.1.sm 0 ls).length : Int)) (T0 := (if ls = [] then 0 else 2)) (nn := z.2.2.1) (ls := ls) (i := z.1) (x := z.2.2.2) hrb hb hz3 hMb) rfl rfl rfl) (fun ub hub => ?_)
   refine fp rfl (bq rfl) (fun b17 _ => ?_)
   refine fp rfl (dU rfl rfl rfl) (fun _ _ => ?_)
   refine bF<|aS<|bb<|dM ae<|gp (ax rfl) rfl<|gp (ax rfl) rfl<|gp ((hY rfl rfl (by simp [Shape, CK.sh]) (by simp [Shape, CK.sh])).bool_f (fun n => n rfl)) rfl<|gp (ao rfl) rfl<|df rfl rfl rfl<|gp (ao rfl) rfl<|df rfl rfl rfl<|gp (ao rfl) rfl<|df rfl rfl rfl<|gp (bC rfl) rfl<|df rfl rfl rfl<|s5 rfl<|df rfl rfl rfl<|gp (aj rfl) rfl<|df rfl rfl rfl<|gp (ar rfl (aC rfl)) rfl<|df rfl rfl rfl<|gp ((cv rfl rfl).bool_f (by rw [hdr]; decide)) rfl<|df rfl rfl rfl<|gp ((nQ rfl rfl).as (v' := Ff) rfl) rfl<|gp (bv rfl rfl) rfl<|gp (ao rfl) rfl<|df rfl rfl rfl<|gp (ao rfl) rfl<|df rfl rfl rfl<|gp (ao rfl) rfl<|df rfl rfl rfl<|gp (bC rfl) rfl<|df rfl rfl rfl<|s5 rfl<|df rfl rfl rfl<|gp (ao rfl) rfl<|qk rfl<|qk rfl<|qk rfl<|qk rfl<|qk rfl<|qk rfl<|qk rfl<|df rfl rfl rfl<|gp (bv rfl rfl) rfl<|gp (bv rfl rfl) rfl<|tX<|aS<|dc rfl<|ew<|eg<|aS<|aJ<|aT (ao rfl) rfl<|gE rfl<|aT (aH rfl) rfl<|bF ?_
   exact bO ((z.1 + 1, (2000000, ua), (2000000, ub))) ⟨by dsimp only; omega, hua, hub⟩ (by dsimp only; omega) ⟨rfl, rfl, rfl, rfl, trivial⟩ Ent.take
  ·refine bb ?_
   refine bb<|aJ<|aT (ao rfl) rfl<|aT (ao rfl) rfl<|aT (bC rfl) rfl<|eR rfl<|bF<|aS<|dG rfl<|ew<|aS<|bb<|dB<|bb ?_
   obtain ⟨m, hm⟩ : ∃ m, ls[z.1]? = some m := ⟨_, List.getElem?_eq_getElem hk⟩
   obtain ⟨b, o, rfl⟩ := hR.nonnil z.1 hk
   have hdr := Ad hm
   refine aJ<|aT (ao rfl) rfl<|aT (af rfl) rfl ?_
   refine fp rfl (ai (ma (c := ra.1) (nb := ra.2) (id := (ls.length : Nat)) (M := ((eJ ra.1.sm 0 ls).length : Int)) (T0 := (if ls = [] then 0 else 2)) (nn := z.2.1.1) (ls := ls) (i := z.1) (x := z.2.1.2) hra hb hz2 hMa) rfl rfl rfl) (fun ua hua => ?_)
   refine fp rfl (bq rfl) (fun b16 _ => ?_)
   refine fp rfl (dU rfl rfl rfl) (fun _ _ => ?_)
   refine bF<|aS<|bb<|aJ<|aT (ao rfl) rfl<|aT (af rfl) rfl ?_
   refine fp rfl (ai (ma (c := rb.1) (nb := rb.2) (id := (ls.length : Nat)) (M := ((eJ rb.1.sm 0 ls).length : Int)) (T0 := (if ls = [] then 0 else 2)) (nn := z.2.2.1) (ls := ls) (i := z.1) (x := z.2.2.2) hrb hb hz3 hMb) rfl rfl rfl) (fun ub hub => ?_)
   refine fp rfl (bq rfl) (fun b17 _ => ?_)
   refine fp rfl (dU rfl rfl rfl) (fun _ _ => ?_)
   refine bF<|aS<|bb<|dM ae<|gp (ax rfl) rfl<|gp (ax rfl) rfl<|gp ((hY rfl rfl (by simp [Shape, CK.sh]) (by simp [Shape, CK.sh])).bool_f (fun n => n rfl)) rfl<|gp (ao rfl) rfl<|df rfl rfl rfl<|gp (ao rfl) rfl<|df rfl rfl rfl<|gp (ao rfl) rfl<|df rfl rfl rfl<|gp (bC rfl) rfl<|df rfl rfl rfl<|Cd rfl<|df rfl rfl rfl<|gp (aj rfl) rfl<|df rfl rfl rfl<|gp (ar rfl (aC rfl)) rfl<|df rfl rfl rfl<|gp ((cv rfl rfl).bool_t (by rw [hdr]; rfl)) rfl<|df rfl rfl rfl<|gp ((nQ rfl rfl).as (v' := Ff) rfl) rfl<|gp (bv rfl rfl) rfl<|gp (ao rfl) rfl<|df rfl rfl rfl<|gp (ao rfl) rfl<|df rfl rfl rfl<|gp (ao rfl) rfl<|df rfl rfl rfl<|gp (bC rfl) rfl<|df rfl rfl rfl<|Cd rfl<|df rfl rfl rfl<|gp (ao rfl) rfl<|df rfl rfl rfl<|gp (aj rfl) rfl<|df rfl rfl rfl<|gp (ar rfl (aC rfl)) rfl<|df rfl rfl rfl<|gp (ao rfl) rfl<|df rfl rfl rfl<|gp (ao rfl) rfl<|df rfl rfl rfl<|gp (au rfl rfl (by omega)) rfl<|df rfl rfl rfl<|gp (ar rfl (bU (S := old W) (by have := hR.rd b o rfl z.1 m 0 (.string m) hm rfl; simpa using this))) rfl<|df rfl rfl rfl<|gp ((rK rfl rfl).bool_f (fun n => n (by rw [hdr]; rfl))) rfl<|df rfl rfl rfl<|gp (de rfl rfl) rfl<|gp (bv rfl rfl) rfl<|tX<|aS<|dc rfl<|ew<|eg<|aS<|aJ<|aT (ao rfl) rfl<|gE rfl<|aT (aH rfl) rfl<|bF ?_
   exact bO ((z.1 + 1, (2000000, ua), (2000000, ub))) ⟨by dsimp only; omega, hua, hub⟩ (by dsimp only; omega) ⟨rfl, rfl, rfl, rfl, trivial⟩ Ent.take
 ·refine bb ?_
  refine bb<|aJ<|aT (ao rfl) rfl<|aT (ao rfl) rfl<|aT (bC rfl) rfl<|eR rfl<|bF<|aS<|dG rfl<|ew<|aS<|bb<|dB<|bb ?_
  obtain ⟨xl, hxl⟩ : ∃ x, es[z.1]? = some x := ⟨_, List.getElem?_eq_getElem hk⟩
  obtain ⟨b, o, rfl⟩ := hE.nonnil z.1 hk
  have hokx := hes xl (List.mem_of_getElem? hxl)
  have hsq : -9223372036854775808 <= xl.sq /\ xl.sq <= 9223372036854775807 := by have := hokx.2.2.2.1; simpa [Lit.wf, IntKind.min, IntKind.max, IntKind.signed, IntKind.bits] using this
  have hxs : xl.d.size <= maxLen := hokx.2.2.2.2
  refine aJ<|aT (ao rfl) rfl<|aT (ao rfl) rfl<|aT (au rfl rfl (by omega)) rfl<|aT (br (vs := [I xl.vl, I xl.ho, I xl.nt, I xl.sq, .string xl.d]) rfl rfl (fun j u hj => bU (S := old W) (hE.rd b o rfl z.1 xl j u hxl hj))) rfl ?_
  refine fp rfl (bq rfl) (fun b12 _ => ?_)
  refine fp rfl (dU rfl rfl rfl) (fun _ _ => ?_)
  refine bF<|aS<|bb<|bb<|aJ<|aT (aj rfl) rfl<|aT (ar rfl (aC rfl)) rfl<|aT (aX rfl) rfl<|aT ((bt rfl rfl)) rfl<|bF<|aS ?_
  refine aG rfl (fun h1 => ?_) (fun h1 => ?_)
  ·refine bb ?_
   refine aJ ?_
   refine fp rfl (ai (hAw) rfl rfl rfl) (fun _ _ => ?_)
   refine cj<|aT (aH rfl) rfl<|bF<|aS<|me<|dD<|fd<|dD<|dD<|fd<|dD ?_
   exact aD rfl rfl () trivial rfl (Ent.take (Q := (aa (old W) (F))))
  ·have hxd : xl.d.size <= 1499 := by omega
   refine ew<|aS<|bb<|aJ<|aT (ax rfl) rfl ?_
   refine fp rfl (ai (yT xl.vl xl.ho xl.nt xl.sq xl.d hsq hxd) rfl rfl rfl) (fun e he => ?_)
   refine cj<|aT (ao rfl) rfl<|aT (ap (v := .string e.1) rfl rfl) rfl<|aT (ap (v := I e.2) rfl rfl) rfl<|aT (aH rfl) rfl<|aT (aH rfl) rfl<|bF<|aS<|bb<|bb<|aJ<|aT (ao rfl) rfl<|aT ((bs rfl rfl)) rfl<|bF<|aS ?_
   refine aG rfl (fun h2 => ?_) (fun h2 => ?_)
   ·refine cx ?_
    refine cD<|dF<|aS<|aJ<|aT (ao rfl) rfl<|gE rfl<|aT (aH rfl) rfl<|bF ?_
    exact bO ((z.1 + 1, z.2.1, z.2.2)) ⟨hk, ⟨hz2.1, by dsimp only; omega⟩, hz3⟩ (by dsimp only; omega) ⟨rfl, rfl, rfl, rfl, rfl, trivial⟩ Ent.take
   ·obtain ⟨e1, e2⟩ := e
    obtain ⟨⟨hv, hs, hq⟩, het⟩ := he (by omega)
    dsimp only at het
    subst het
    refine ew<|aS<|bb<|aJ<|aT (ao rfl) rfl<|aT (ao rfl) rfl<|aT (fW rfl rfl (by omega)) rfl<|gE rfl<|aT (aj rfl) rfl<|aT (ar rfl (aC rfl)) rfl<|aT (ao rfl) rfl ?_
    refine fp rfl (ai (Im (c := rb.1) (nb := rb.2) (id := (ls.length : Nat)) (nn := z.2.1) (now := 100 * (z.1 : Nat) + 10) (M := ((eJ rb.1.sm 0 ls).length : Int)) (T0 := (if ls = [] then 0 else 2)) (ms := ls) (x := z.2.2) hrb ⟨hz2.1, by omega, by omega⟩ hz3 hv hs hq hxd) rfl rfl rfl) (fun r hr => ?_)
    refine aT ((cv rfl rfl).bool_f hr.2) rfl<|bF<|aS<|dc rfl<|ew<|eg<|aS<|aJ<|aT (ao rfl) rfl<|gE rfl<|aT (aH rfl) rfl<|bF ?_
    exact bO ((z.1 + 1, 100 * (z.1 : Nat) + 10, r.1)) ⟨hk, ⟨by dsimp only; omega, by dsimp only; omega⟩, hr.1⟩ (by dsimp only; omega) ⟨rfl, rfl, rfl, rfl, rfl, trivial⟩ Ent.take
end Sp
end
section
namespace Sp
open Mq
def hello : ByteArray := ⟨#[104, 101, 108, 108, 111]⟩
theorem vj {c : NC} (hs : c.sm = 80) : (eJ c.sm 0 [hello]).length = 1 := by
 have hm : bY 0 80 hello := ⟨by decide, by decide, by decide, by decide, by decide⟩
 rw [hs]
 show (dq 0 80 hello ++ []).length = 1
 rw [List.append_nil]
 unfold dq
 rw [List.length_map, s7 hm, iF]
 ·rfl
 ·have hds : (wk 0 hello).data.size = 8 + hello.size := gw oC hello
  rw [hds]
  decide
theorem vk {c : NC} (hc : NCH c) (hs : c.sm = 80) : Inv c [hello] 1 10 ((10 : Int) - 10 % 50) (.q 10 0 10 ([] ++ dq 0 c.sm hello) ⟨[], 0, 0⟩ []) /\ (NS.q 10 0 10 ([] ++ dq 0 c.sm hello) ⟨[], 0, 0⟩ []).t <= 10 := by
 have := uM (w := 10) (ms := [hello]) (x := .q 10 0 10 (dq 0 c.sm hello) ⟨[], 0, 0⟩ []) hc rfl (by decide) (MsH.of hc.s (Int.le_refl _) (by decide) (fun m hm => by rw [List.mem_singleton.1 hm]; decide)) (by decide)
 rw [vj hs, if_neg (by simp)] at this
 exact this
set_option maxHeartbeats 800000 in
theorem Bi (Y : Type) (V : Y -> Value) (H : Y -> ab) (hB : FSpec prog 18 #[.agg [I 0, I 0, I 0].toArray] emp (fun _ : Y => True) V H) (hN : ∀ y, FSpec prog 17 #[V y] (H y) (fun r : NC × Nat => NCH r.1 /\ r.1.sm = 80) (fun r => .tuple #[Pt r.2 0, I 0]) (fun r => jy r.1 r.2 1 1 0 0 oM)) : FSpec prog 7 #[] (emp) (fun _ : Unit => True) (fun _ => Tt) (fun _ => emp) := by
 refine en func7 rfl fun _ F=>bG<|aE rfl<|sr<|lv (af rfl) rfl<|cy hB rfl fun ya=>lx rfl (ai (hN ya) rfl rfl rfl) fun ra hra=>?_
 obtain ⟨hra, hsm⟩ := hra
 refine ea rfl<|lv (ap (v := Pt ra.2 0) rfl rfl) rfl<|lv (ap (v := I 0) rfl rfl) rfl<|eb rfl<|nj<|sa rfl<|bJ rfl<|ea rfl<|go rfl<|ea rfl<|go rfl<|lv ((bj rfl rfl).as (v' := Ff) rfl) rfl<|an rfl<|cf rfl<|sk<|sa rfl<|cy (jZ ra.1 ra.2) rfl fun _=>nr<|ea rfl<|lv (af rfl) rfl<|cy (xW (c := ra.1) (nb := ra.2) (id := 0) (t := 1) (nn := 1) (a := 10) (Tb := ⟨[], 0, 0⟩) (rows := []) (m := hello) hra ⟨by decide, by decide, by omega, by omega, by decide⟩ (by decide)) rfl fun _=>al rfl fun b3=>lx rfl (dU rfl rfl rfl) fun _ _=>nr<|ea rfl<|lv (af rfl) rfl<|lx rfl (ai (BW (c := ra.1) (nb := ra.2) (id := 0 + 1) (nn := 10) (now := 300) (M := 1) (T0 := 10) (ms := [hello]) hra (by decide) (by decide) (vk hra hsm) (by have hbp := hra.bp; rw [hsm]; omega)) rfl rfl rfl) fun xb hxb=>al rfl fun b4=>lx rfl (dU rfl rfl rfl) fun _ _=>nr<|fz rfl<|ld rfl rfl<|lv ((cv rfl rfl).bool_t rfl) rfl<|ea rfl<|go rfl<|fz rfl<|go rfl<|ld rfl rfl<|go rfl<|lv ((cv rfl rfl).bool_t rfl) rfl<|eb rfl<|go rfl<|fz rfl<|go rfl<|ld rfl rfl<|go rfl<|lv ((rL rfl rfl).bool_t rfl) rfl<|eb rfl<|nk<|jr ?_
 exact aD rfl rfl () trivial rfl (by rw [bN]; repeat (first | exact ah F | refine Ent.trans Ent.drop ?_))
end Sp
end
section
namespace Sp
open Mq
def uc : Prop := ∀ x : Cf, ∃ (Y : Type) (V : Y -> Value) (H : Y -> ab), (FSpec prog 18 #[.agg [I x.L, I x.S, I x.G].toArray] emp (fun _ : Y => True) V H) /\ ∀ y, FSpec prog 17 #[V y] (H y) (fun r : NC × Nat => NCH r.1 /\ r.1.sm = x.sm) (fun r => .tuple #[Pt r.2 0, I 0]) (fun r => jy r.1 r.2 1 1 0 0 oM)
theorem Cf.of (L S G : Int) : ∃ x : Cf, x.L = L /\ x.S = S /\ x.G = G /\ x.sm = 80 + ((S.tmod 200) + 200).tmod 200 := by
 have hs : 0 <= ((S.tmod 200) + 200).tmod 200 /\ ((S.tmod 200) + 200).tmod 200 < 200 := ⟨Int.tmod_nonneg _ (by have := Int.lt_tmod_of_pos S (show (0 : Int) < 200 by decide); omega), Int.tmod_lt_of_pos _ (by decide)⟩
 have hg : 0 <= ((G.tmod 2) + 2).tmod 2 /\ ((G.tmod 2) + 2).tmod 2 < 2 := ⟨Int.tmod_nonneg _ (by have := Int.lt_tmod_of_pos G (show (0 : Int) < 2 by decide); omega), Int.tmod_lt_of_pos _ (by decide)⟩
 rcases (show ((G.tmod 2) + 2).tmod 2 = 0 \/ ((G.tmod 2) + 2).tmod 2 = 1 by omega) with h | h
 ·exact ⟨⟨L, S, G, _, _, 0, 12500, rfl, rfl, h, ⟨by omega, by omega, .inl ⟨rfl, rfl⟩⟩⟩, rfl, rfl, rfl, rfl⟩
 ·exact ⟨⟨L, S, G, _, _, 1, 25000, rfl, rfl, h, ⟨by omega, by omega, .inr ⟨rfl, rfl⟩⟩⟩, rfl, rfl, rfl, rfl⟩
theorem wr (hN : uc) : FSpec prog 7 #[] emp (fun _ : Unit => True) (fun _ => Tt) (fun _ => emp) := by
 obtain ⟨x, h1, h2, h3, h4⟩ := Cf.of 0 0 0
 obtain ⟨Y, V, H, hB, hNw⟩ := hN x
 rw [h1, h2, h3] at hB
 rw [show x.sm = 80 from h4] at hNw
 exact Bi Y V H hB hNw
theorem qD (hN : uc) (W : World) (L S G : Int) (A Ae : Option Addr) (cp ce l le : Nat) (ls : List ByteArray) (es : List Lf) (h1 : pE W (fun m : ByteArray => [Value.string m]) 1 A l ls) (hl : l <= cp) (hc : cp <= maxLen) (h2 : pE W encLf 5 Ae le es) (hle : le <= ce) (hce : ce <= maxLen) (hes : ∀ e ∈ es, okLf e) : FSpec prog 4 #[.agg [I L, I S, I G].toArray, .slice A l cp, .slice Ae le ce] (old W) (fun _ : Unit => True) (fun _ => Tt) (fun _ => old W) := by
 have hA := wr hN
 obtain ⟨x, e1, e2, e3, e4⟩ := Cf.of L S G
 obtain ⟨Y, V, H, hB, hNw⟩ := hN x
 rw [e1, e2, e3] at hB
 have hNw' := fun y => (hNw y).conseq (ah _) fun r hr => ⟨r, hr.1, rfl, ah _⟩
 have q1 := h1.1
 have q2 := h2.1
 subst q1 q2
 have hcp : ls.length <= 9223372036854775807 /\ es.length <= 9223372036854775807 := by unfold maxLen at hc hce; omega
 by_cases hb : 8 < ls.length
 ·exact Ie L S G Y V H hB hNw' hA W A Ae cp ce ls es hcp hb
 ·by_cases hb2 : 20 < es.length
  ·exact Id L S G Y V H hB hNw' hA W A Ae cp ce ls es hcp (by omega) hb2
  ·by_cases ho : uw ls
   ·exact GM L S G Y V H hB hNw' hA W A Ae cp ce ls es hcp (RdS.old h1) (RdS.old h2) hes (by omega) (by omega) ho
   ·exact Ic L S G Y V H hB hNw' hA W A Ae cp ce ls es hcp (RdS.old h1) (by omega) (by omega) ho
end Sp
end
section
namespace Sp
open Mq
variable {n p ob oo oc lr cr : Nat}
abbrev CfO (n : Nat) (x : Cf) (yy : VlA) (z : CfA) : ab := (aa (Ow 3 1 (Sk z.pb z.po 3 z.pc) 3 [I 0, I 1, I 2]) (aa (Ow 149 3 (Sk z.wb z.wo 3 z.wc) 3 [I 0, I 0, I 1000, I 1, I 0, I 1000, I 2, I 0, I 1000]) (aa (dJ x n yy) (aa (cE n z.rb z.ro z.rc) (TOS yy n)))))
theorem fe {x : Cf} {yy : VlA} {z : CfA} {f : FuncId} {args : Array Value} {Y : Type} (g : Y -> Nat) {R : Y -> ab} {X : Nat -> ab} (k : FSpec prog f args (CfO n x yy z) (fun _ : Y => True) (fun y => .tuple #[Pt (g y) 0, I 0]) (fun y => (aa (qq10 z) (aa (qq13 z) (aa (dJ x n yy) (aa (qq3 n z) (aa (TOS yy n) (R y)))))))) (e : ∀ y, Ent (R y) (X (g y))) :
  FSpec prog f args (CfO n x yy z) (fun _ : Nat => True) (fun p => .tuple #[Pt p 0, I 0]) (fun p => (aa (CfO n x yy z) (X p))) :=
 k.conseq (ah _) fun y _ => ⟨g y, trivial, rfl, Ent.trans (aw (aw (aw (aw (aw (e y) _) _) _) _) _) (Ent.of (by simp only [CfO, ak]))⟩
theorem Ent.emp (P : ab) : Ent P emp := Ent.trans (Ent.of (bN P).symm) Ent.left
theorem G4 (x : Cf) (hn : n = 1 \/ n = 2 \/ n = 3) : 600 <= Jt x n /\ Jt x n <= 6250 := by
 have h := x.h
 have h1 : Jt x 1 = 500 + (x.sm + 20) := rfl
 have h2 : Jt x 2 = Jt x 1 + (x.sm + 20) := rfl
 have h3 : Jt x 3 = Jt x 2 + (x.sm + 20) := rfl
 rcases hn with rfl | rfl | rfl <;> omega
theorem XS.of (x : Cf) (J : Int) (i : Nat) (f : Int -> Option Value) : Ent (SwL x J i f) (XS f (10 + (i : Int))) := by
 refine Ent.trans (Ent.of (cR _).symm) (gZ fun y => ?_)
 rw [ak]
 refine fj fun h => Ent.trans (Ent.take (Q := am (y 0) [I (10 + (i : Int)), I 0, I x.bg, I x.sm, .bool (decide (i = 1)), I 2, I 60000, Sk (y 1) (y 2) 1 (y 3), Pt (y 4) 0, I 0] 213)) ?_
 exact Ent.trans (Ent.lift h) (bh (f := fun q : Nat × (Nat -> Value) => (aa (SLA.lift (f (10 + (i : Int)) = some (Pt q.1 0))) (am q.1 [q.2 0, I 0, q.2 1, q.2 2, q.2 3, q.2 4, q.2 5, q.2 6, q.2 7, q.2 8] 213))) (y 0, fun j => [I (10 + (i : Int)), I x.bg, I x.sm, .bool (decide (i = 1)), I 2, I 60000, Sk (y 1) (y 2) 1 (y 3), Pt (y 4) 0, I 0].getD j Tt))
theorem SwX.of (x : Cf) (J : Int) (n : Nat) (hn : n = 1 \/ n = 2 \/ n = 3) (f : Int -> Option Value) : Ent (Lks (SwL x J) n f) (aa (SwL x J 0 f) (SwX n f)) := by
 rcases hn with rfl | rfl | rfl
 ·exact ah _
 ·exact Ent.trans (Ent.frame (XS.of x J 1 f) _) (Ent.take (P := (aa (XS f 11) ((aa (SwL x J 0 f) (emp))))) (Q := (aa (SwL x J 0 f) (XS f 11))))
 ·exact Ent.trans (cK (XS.of x J 2 f) (Ent.frame (XS.of x J 1 f) _)) (Ent.take (P := (aa (XS f 12) ((aa (XS f 11) ((aa (SwL x J 0 f) (emp))))))) (Q := (aa (SwL x J 0 f) ((aa (XS f 11) (XS f 12))))))
abbrev _root_.Go.qq24 (a : Nat) := OutP a (dS ⟨0, ⟨#[]⟩, 0, 0⟩) 1024 1024 0 0 0
abbrev _root_.Go.qq43 (a : Nat) := OutP a qs0 1024 1024 0 0 0
theorem SwI.make {o0 o1 o2 : Nat} (hn : n = 1 \/ n = 2 \/ n = 3) (x : Cf) {g J : Int} (hg : g = 0 \/ g = 1) (hJ : 600 <= J /\ J <= 6250) : Ent (aa (LkM (SwL x J) n lr) (aa (mapc cr .i64 (fun _ => 0)) (aa (am p [I g, Sk ob oo 3 oc, Mp lr, Ns, I 0, Mp cr] 201) (aa (qq43 o0) (aa (qq43 o1) (aa (qq43 o2) (Ow 202 1 (Sk ob oo 3 oc) 3 [Pt o0 0, Pt o1 0, Pt o2 0]))))))) (SwI p n g x.sm x.bg x.P J 0 0) := by
 have hx := x.h
 refine gZ fun f => ?_
 rw [ak]
 refine fj fun hd => ?_
 refine Ent.trans (Ent.take (Q := (aa (Lks (SwL x J) n f) ((aa (az lr .i64 f) (aa (mapc cr .i64 (fun _ => 0)) (aa (am p [I g, Sk ob oo 3 oc, Mp lr, Ns, I 0, Mp cr] 201) (aa (qq43 o0) (aa (qq43 o1) (aa (qq43 o2) (Ow 202 1 (Sk ob oo 3 oc) 3 [Pt o0 0, Pt o1 0, Pt o2 0]))))))))))) (Ent.trans (Ent.frame (SwX.of x J n hn f) _) ?_)
 rw [ak]
 refine gZ fun y => ?_
 rw [ak]
 refine fj fun h0 =>Ent.trans (Ent.trans (Ent.of (bN _).symm) (Ent.frame (show Ent emp (Ow 308 3 (Ns) 0 []) from Ow.nil 308 3) _))<|Ent.trans (show Ent _ (aa (Ow 308 3 (Ns) 0 []) (aa ((aa (am (y 0) [I 10, I 0, I x.bg, I x.sm, Ff, I 2, I 60000, Sk (y 1) (y 2) 1 (y 3), Pt (y 4) 0, I 0] 213) (aa (Ow 3 1 (Sk (y 1) (y 2) 1 (y 3)) 1 [I 1]) (am (y 4) [I x.sm, I x.bg, I J, Ff, I 0, I (x.sm * (x.P + J)), I 0, I 0] 255)))) (aa (SwX n f) ((aa (az lr .i64 f) (aa (mapc cr .i64 (fun _ => 0)) (aa (am p [I g, Sk ob oo 3 oc, Mp lr, Ns, I 0, Mp cr] 201) (aa (qq24 o0) (aa (qq24 o1) (aa (qq24 o2) (Ow 202 1 (Sk ob oo 3 oc) 3 [Pt o0 0, Pt o1 0, Pt o2 0]))))))))))) from ah _) ?_
 have hm : x.sm * (x.P + J - 350) <= x.sm * (x.P + J) := Int.mul_le_mul_of_nonneg_left (by omega) (by omega)
 have hz : 0 <= x.sm * (x.P + J) := Int.mul_nonneg (by omega) (by omega)
 exact Ent.trans (Ent.take (Q := (aa (am p [I g, Sk ob oo 3 oc, Mp lr, Ns, I 0, Mp cr] 201) (aa (Ow 202 1 (Sk ob oo 3 oc) 3 [Pt o0 0, Pt o1 0, Pt o2 0]) (aa (az lr .i64 f) (aa (mapc cr .i64 (fun _ => 0)) (aa (am (y 0) [I 10, I 0, I x.bg, I x.sm, Ff, I 2, I 60000, Sk (y 1) (y 2) 1 (y 3), Pt (y 4) 0, I 0] 213) (aa (Ow 3 1 (Sk (y 1) (y 2) 1 (y 3)) 1 [I 1]) (aa (am (y 4) [I x.sm, I x.bg, I J, Ff, I 0, I (x.sm * (x.P + J)), I 0, I 0] 255) (aa (qq24 o0) (aa (qq24 o1) (aa (qq24 o2) (aa (Ow 308 3 (Ns) 0 []) (SwX n f)))))))))))))) (SwI.fold ⟨ob, oo, oc, lr, cr, y 0, y 1, y 2, y 3, y 4, o0, o1, o2, (none, 0), f, fun _ => 0, 0, x.sm * (x.P + J), 0, 0, 0, ⟨0, ⟨#[]⟩, 0, 0⟩, ⟨0, ⟨#[]⟩, 0, 0⟩, ⟨0, ⟨#[]⟩, 0, 0⟩⟩
  ⟨hg, h0, hd, ⟨by omega, by omega, by omega, by dsimp only; omega, ⟨hz, Int.le_refl _⟩, by dsimp only; rw [Int.sub_zero, Int.mul_zero, Int.add_zero]; exact hm, by dsimp only; omega, by dsimp only; omega⟩, by omega, by dsimp only; omega, by dsimp only; omega⟩)
abbrev _root_.Go.qq4 (a : CfA) (b : VlA) (c : Nat) : List Value := [I 3, Sk a.pb a.po 3 a.pc, I 1000, Sk a.wb a.wo 3 a.wc, Sk b.vb b.vo c b.vc, Sk a.rb a.ro (bL c) a.rc]
theorem BU (n : Nat) (hn : n = 1 \/ n = 2 \/ n = 3) (x : Cf) (yy : VlA) (z : CfA) (g : Int) (hg : g = 0 \/ g = 1) : FSpec prog 58 #[.agg (qq4 z yy n).toArray, I g] (CfO n x yy z) (fun _ : Nat => True) (fun p => .tuple #[Pt p 0, I 0]) (fun p => (aa (CfO n x yy z) (SwI p n g x.sm x.bg x.P (Jt x n) 0 0))) :=
 fe (X := fun p => SwI p n g x.sm x.bg x.P (Jt x n) 0 0) (fun y : Nat × Nat × Nat × Nat × Nat × Nat × Nat × Nat × Nat => y.1) (Hr n hn x yy z g hg) fun y => SwI.make hn x hg (G4 x hn)
theorem Cv (hn : n = 1 \/ n = 2 \/ n = 3) : sU n = Cw n := by rcases hn with rfl | rfl | rfl <;> rfl
theorem XL.of (x : Cf) (i : Nat) (f : Int -> Option Value) : Ent (EtL x i f) (XL f (10 + (i : Int))) := by
 refine Ent.trans (Ent.of (cR _).symm) (gZ fun y => ?_)
 rw [ak]
 refine fj fun h => Ent.trans (Ent.take (Q := (aa (am (y 0) [I (10 + (i : Int)), I 0, I x.bg, I x.sm, .bool (decide (i = 1)), I 2, I 60000, Sk (y 1) (y 2) 1 (y 3), Pt (y 4) 0, Pt (y 5) 0, I 0, I 0] 269) (am (y 4) qq57 326)))) ?_
 exact Ent.trans (Ent.lift h) (bh (f := fun y : Nat × Nat × (Nat -> Value) => (aa (SLA.lift (f (10 + (i : Int)) = some (Pt y.1 0))) (aa (am y.1 [y.2.2 0, y.2.2 1, y.2.2 2, y.2.2 3, y.2.2 4, y.2.2 5, y.2.2 6, y.2.2 7, Pt y.2.1 0, y.2.2 8, y.2.2 9, y.2.2 10] 269) (am y.2.1 [y.2.2 11, y.2.2 12, y.2.2 13, y.2.2 14, y.2.2 15, y.2.2 16, y.2.2 17, I 0] 326)))) (y 0, y 4, fun j => [I (10 + (i : Int)), I 0, I x.bg, I x.sm, .bool (decide (i = 1)), I 2, I 60000, Sk (y 1) (y 2) 1 (y 3), Pt (y 5) 0, I 0, I 0, Ns, Ns, Ns, Ns, I 2, I 1024, I 0].getD j Tt))
theorem LX.of (x : Cf) (n : Nat) (hn : n = 1 \/ n = 2 \/ n = 3) (f : Int -> Option Value) : Ent (Lks (EtL x) n f) (aa (EtL x 0 f) (LX n f)) := by
 rcases hn with rfl | rfl | rfl
 ·exact ah _
 ·exact Ent.trans (Ent.frame (XL.of x 1 f) _) (Ent.take (P := (aa (XL f 11) ((aa (EtL x 0 f) (emp))))) (Q := (aa (EtL x 0 f) (XL f 11))))
 ·exact Ent.trans (cK (XL.of x 2 f) (Ent.frame (XL.of x 1 f) _)) (Ent.take (P := (aa (XL f 12) ((aa (XL f 11) ((aa (EtL x 0 f) (emp))))))) (Q := (aa (EtL x 0 f) ((aa (XL f 11) (XL f 12))))))
theorem SubP.make (q : Nat) : Ent (am q [Ns, Ns, Ns, Ns, I 2, I 1024, I 0, I 0] 326) (SubP q [] 0) :=
 Ent.trans (Ent.trans (Ent.of (bN _).symm) (Ent.frame (show Ent emp (Ow 9 1 (Ns) 0 []) from Ow.nil 9 1) _)) (Ent.trans (Ent.of (cd _ _)) (Ent.trans (Ent.of (by rw [cR]; rfl)) (Ent.trans (SubP.fold (R := []) (t := 0) (F := emp) (none, 0)) (Ent.of (cR _)))))
theorem TxQ.make {ln gm : Nat} (hn : n = 1 \/ n = 2 \/ n = 3) (x : Cf) (yy : VlA) (z : CfA) : Ent (aa (LkM (EtL x) n lr) (aa (Ow 3 1 (Sk ob oo n oc) n (sU n)) (aa (LineP ln [] 0 0) (aa (az gm .i64 (fun _ => none)) (am p [I 3, Sk z.pb z.po 3 z.pc, I 1000, Sk z.wb z.wo 3 z.wc, Sk yy.vb yy.vo n yy.vc, Sk z.rb z.ro (bL n) z.rc, I 0, Mp lr, Sk ob oo n oc, Pt ln 0, I 0, I 0, Mp gm, I 0, Ns] 263))))) (TxQ p n z.rb z.ro z.rc x.sm x.bg x.P 0 0 0 0 []) := by
 have hx := x.h
 refine gZ fun f => ?_
 rw [ak]
 refine fj fun hd => ?_
 rw [Cv hn]
 refine Ent.trans (Ent.take (Q := (aa (Lks (EtL x) n f) ((aa (az lr .i64 f) (aa (Ow 3 1 (Sk ob oo n oc) n (Cw n)) (aa (LineP ln [] 0 0) (aa (az gm .i64 (fun _ => none)) (am p [I 3, Sk z.pb z.po 3 z.pc, I 1000, Sk z.wb z.wo 3 z.wc, Sk yy.vb yy.vo n yy.vc, Sk z.rb z.ro (bL n) z.rc, I 0, Mp lr, Sk ob oo n oc, Pt ln 0, I 0, I 0, Mp gm, I 0, Ns] 263))))))))) (Ent.trans (Ent.frame (LX.of x n hn f) _) ?_)
 rw [ak]
 refine gZ fun y => ?_
 rw [ak]
 refine fj fun h0 =>Ent.trans (Ent.take (Q := (aa (am (y 4) [Ns, Ns, Ns, Ns, I 2, I 1024, I 0, I 0] 326) (aa ((aa (Ow 3 1 (Sk ob oo n oc) n (Cw n)) (aa (az lr .i64 f) (LX n f)))) (aa (am (y 0) [I (10 + ((0 : Nat) : Int)), I 0, I x.bg, I x.sm, .bool (decide ((0 : Nat) = 1)), I 2, I 60000, Sk (y 1) (y 2) 1 (y 3), Pt (y 4) 0, Pt (y 5) 0, I 0, I 0] 269) (aa (am (y 5) [.int .u64 x.bg, Ff, I 0, I 0, I 0] 330) (aa (LineP ln [] 0 0) (aa (az gm .i64 (fun _ => none)) (am p [I 3, Sk z.pb z.po 3 z.pc, I 1000, Sk z.wb z.wo 3 z.wc, Sk yy.vb yy.vo n yy.vc, Sk z.rb z.ro (bL n) z.rc, I 0, Mp lr, Sk ob oo n oc, Pt ln 0, I 0, I 0, Mp gm, I 0, Ns] 263)))))))))<|Ent.trans (cK (SubP.make (y 4)) (Ent.frame (LkP.of (show f 10 = some (Pt (y 0) 0) from h0)) _))<|Ent.trans (show Ent _ (aa (SubP (y 4) [] 0) (aa (LkP n lr ob oo oc (y 0)) (aa (am (y 0) [I 10, I 0, I x.bg, I x.sm, Ff, I 2, I 60000, Sk (y 1) (y 2) 1 (y 3), Pt (y 4) 0, Pt (y 5) 0, I 0, I 0] 269) (aa (am (y 5) [.int .u64 x.bg, Ff, I 0, I 0, I 0] 330) (aa (LineP ln [] 0 0) (aa (az gm .i64 (fun _ => none)) (am p [I 3, Sk z.pb z.po 3 z.pc, I 1000, Sk z.wb z.wo 3 z.wc, Sk yy.vb yy.vo n yy.vc, Sk z.rb z.ro (bL n) z.rc, I 0, Mp lr, Sk ob oo n oc, Pt ln 0, I 0, I 0, Mp gm, I 0, Ns] 263))))))) from ah _) ?_
 exact Ent.trans (Ent.take (Q := (aa (am p [I 3, Sk z.pb z.po 3 z.pc, I 1000, Sk z.wb z.wo 3 z.wc, Sk yy.vb yy.vo n yy.vc, Sk z.rb z.ro (bL n) z.rc, I 0, Mp lr, Sk ob oo n oc, Pt ln 0, I 0, I 0, Mp gm, I 0, Ns] 263) (aa (LkP n lr ob oo oc (y 0)) (aa (am (y 0) [I 10, I 0, I x.bg, I x.sm, Ff, I 2, I 60000, Sk (y 1) (y 2) 1 (y 3), Pt (y 4) 0, Pt (y 5) 0, I 0, I 0] 269) (aa (SubP (y 4) [] 0) (aa (am (y 5) [.int .u64 x.bg, Ff, I 0, I 0, I 0] 330) (aa (LineP ln [] 0 0) (az gm .i64 (fun _ => none)))))))))) (TxQ.fold ⟨fun j => [I 3, Sk z.pb z.po 3 z.pc, I 1000, Sk z.wb z.wo 3 z.wc, Sk yy.vb yy.vo n yy.vc].getD j Tt, Sk (y 1) (y 2) 1 (y 3), lr, ob, oo, oc, ln, gm, y 0, y 4, y 5, 0, 0, 0, 0, 0, 0, 0, false⟩ ⟨by omega, .inl ⟨rfl, rfl, rfl⟩, (by omega), (by dsimp only; omega), (by dsimp only; omega), fun h => absurd rfl h, (by dsimp only; omega), (by dsimp only; omega), (by dsimp only; omega), (by omega), .inl rfl, by simp, fun d hd => (by cases hd), fun _ => rfl⟩)
theorem Dg (n : Nat) (hn : n = 1 \/ n = 2 \/ n = 3) (x : Cf) (yy : VlA) (z : CfA) : FSpec prog 96 #[.agg (qq4 z yy n).toArray, I 0] (CfO n x yy z) (fun _ : Nat => True) (fun p => .tuple #[Pt p 0, I 0]) (fun p => (aa (CfO n x yy z) (TxQ p n z.rb z.ro z.rc x.sm x.bg x.P 0 0 0 0 []))) :=
 fe (X := fun p => TxQ p n z.rb z.ro z.rc x.sm x.bg x.P 0 0 0 0 []) (fun y : Nat × Nat × Nat × Nat × Nat × Nat × Nat => y.1) (Ho n hn x yy z) fun y => TxQ.make hn x yy z
theorem JdP.make (j : Nat) : Ent (am j qq35 332) (JdP j 0) := bh (f := fun z : Int × Int => am j [.bool (decide ((0 : Int) < 0)), I (if (0 : Int) < 0 then (0 : Int) - 1 else 0), I 0, Ff, I z.1, I z.2] 332) (0, 0)
theorem FilP.make (j : Nat) : Ent (am j [Ns, I 60000, I 0, I 0, I 0, I 0] 335) (FilP j 0 0) := by
 refine Ent.trans ?_ (Ent.trans (Ent.lift (p := FilH 0 0 0 [] 0 0 0) ⟨by decide, fun x hx => (by cases hx), by decide, by decide⟩) (bh (f := fun z : List Fr × Int × Int × Int => (aa (SLA.lift (FilH 0 0 0 z.1 z.2.1 z.2.2.1 z.2.2.2)) (FilB j z.1 0 (I z.2.1) (I z.2.2.1) (I z.2.2.2)))) ([], 0, 0, 0)))
 exact Ent.trans (Ent.trans (Ent.of (bN _).symm) (Ent.frame (show Ent emp (Ow 425 3 (Ns) 0 []) from Ow.nil 425 3) _)) (Ent.trans (Ent.of (cd _ _)) (bh (f := fun a : Option Addr × Nat => (aa (am j [.slice a.1 ([] : List Fr).length a.2, I 60000, I 0, I 0, I 0, I 0] 335) (Ow 425 3 (.slice a.1 ([] : List Fr).length a.2) ([] : List Fr).length (([] : List Fr).flatMap dl)))) (none, 0)))
theorem Lks.first {L : Nat -> (Int -> Option Value) -> ab} (hn : n = 1 \/ n = 2 \/ n = 3) (f : Int -> Option Value) : Ent (Lks L n f) (L 0 f) := by
 rcases hn with rfl | rfl | rfl
 ·exact Ent.take (P := (aa (L 0 f) (emp)))
 ·exact Ent.take (P := (aa (L 1 f) ((aa (L 0 f) (emp)))))
 ·exact Ent.take (P := (aa (L 2 f) ((aa (L 1 f) ((aa (L 0 f) (emp)))))))
theorem RxP.make {tp : Nat} (hn : n = 1 \/ n = 2 \/ n = 3) (x : Cf) (yy : VlA) (z : CfA) : Ent (aa (qq34 tp) (aa (LkM (ErL x) n lr) (aa (mapc cr .i64 (fun _ => 0)) (am p [I 3, Sk z.pb z.po 3 z.pc, I 1000, Sk z.wb z.wo 3 z.wc, Sk yy.vb yy.vo n yy.vc, Sk z.rb z.ro (bL n) z.rc, I 1, Mp lr, Pt tp 0, I 0, Mp cr] 277)))) (RxP p n z.rb z.ro z.rc x.sm 0 0 ⟨[], 0, 0⟩) := by
 refine Ent.trans (Ent.take (Q := (aa (LkM (ErL x) n lr) ((aa (qq34 tp) (aa (mapc cr .i64 (fun _ => 0)) (am p [I 3, Sk z.pb z.po 3 z.pc, I 1000, Sk z.wb z.wo 3 z.wc, Sk yy.vb yy.vo n yy.vc, Sk z.rb z.ro (bL n) z.rc, I 1, Mp lr, Pt tp 0, I 0, Mp cr] 277))))))) (gZ fun f => ?_)
 rw [ak]
 refine fj fun hd => ?_
 refine Ent.trans (Ent.take (Q := (aa (Lks (ErL x) n f) ((aa (az lr .i64 f) (aa (qq34 tp) (aa (mapc cr .i64 (fun _ => 0)) (am p [I 3, Sk z.pb z.po 3 z.pc, I 1000, Sk z.wb z.wo 3 z.wc, Sk yy.vb yy.vo n yy.vc, Sk z.rb z.ro (bL n) z.rc, I 1, Mp lr, Pt tp 0, I 0, Mp cr] 277)))))))) (Ent.trans (Ent.frame (Lks.first hn f) _) ?_)
 refine gZ fun y => ?_
 rw [ak]
 refine fj fun h0 =>Ent.trans (Ent.take (Q := (aa (am (y 4) [Ff, I 0, I 0, Ff, I 0, I 0] 332) (aa (am (y 5) [Ff, I 0, I 0, Ff, I 0, I 0] 332) (aa (am (y 6) [Ns, I 60000, I 0, I 0, I 0, I 0] 335) (aa (am (y 0) [I (10 + ((0 : Nat) : Int)), I 0, I x.bg, I x.sm, .bool (decide ((0 : Nat) = 1)), I 2, I 60000, Sk (y 1) (y 2) 1 (y 3), Pt (y 4) 0, Pt (y 5) 0, Pt (y 6) 0] 283) (aa (az lr .i64 f) (aa (qq34 tp) (aa (mapc cr .i64 (fun _ => 0)) (am p [I 3, Sk z.pb z.po 3 z.pc, I 1000, Sk z.wb z.wo 3 z.wc, Sk yy.vb yy.vo n yy.vc, Sk z.rb z.ro (bL n) z.rc, I 1, Mp lr, Pt tp 0, I 0, Mp cr] 277))))))))))<|Ent.trans (cK (JdP.make (y 4)) (cK (JdP.make (y 5)) (Ent.frame (FilP.make (y 6)) _)))<|Ent.trans (show Ent _ (aa (JdP (y 4) 0) (aa (JdP (y 5) 0) (aa (FilP (y 6) 0 0) (aa (am (y 0) [I 10, I 0, I x.bg, I x.sm, Ff, I 2, I 60000, Sk (y 1) (y 2) 1 (y 3), Pt (y 4) 0, Pt (y 5) 0, Pt (y 6) 0] 283) (aa (az lr .i64 f) (aa (qq34 tp) (aa (mapc cr .i64 (fun _ => 0)) (am p [I 3, Sk z.pb z.po 3 z.pc, I 1000, Sk z.wb z.wo 3 z.wc, Sk yy.vb yy.vo n yy.vc, Sk z.rb z.ro (bL n) z.rc, I 1, Mp lr, Pt tp 0, I 0, Mp cr] 277)))))))) from ah _)<|Ent.trans (Ent.take (Q := (aa (am p [I 3, Sk z.pb z.po 3 z.pc, I 1000, Sk z.wb z.wo 3 z.wc, Sk yy.vb yy.vo n yy.vc, Sk z.rb z.ro (bL n) z.rc, I 1, Mp lr, Pt tp 0, I 0, Mp cr] 277) (aa (az lr .i64 f) (aa (am (y 0) [I 10, I 0, I x.bg, I x.sm, Ff, I 2, I 60000, Sk (y 1) (y 2) 1 (y 3), Pt (y 4) 0, Pt (y 5) 0, Pt (y 6) 0] 283) (aa (JdP (y 4) 0) (aa (JdP (y 5) 0) (aa (FilP (y 6) 0 0) (aa (qq34 tp) (mapc cr .i64 (fun _ => 0))))))))))) ?_
 exact Ent.trans (Ent.lift (show f 10 = some (Pt (y 0) 0) from h0)) (bh (f := fun v : RxV => (aa (SLA.lift (v.fl 10 = some (Pt v.lb 0))) ((aa (am p [v.c 0, v.c 1, v.c 2, v.c 3, v.c 4, Sk z.rb z.ro (bL n) z.rc, I 1, Mp v.lr, Pt v.tp 0, I 0, Mp v.cr] 277) (aa (az v.lr .i64 v.fl) (aa (am v.lb [I 10, I 0, I v.bg, I x.sm, Ff, I 2, I 60000, v.tos, Pt v.j0 0, Pt v.j1 0, Pt v.ft 0] 283) (aa (JdP v.j0 0) (aa (JdP v.j1 0) (aa (FilP v.ft 0 0) (aa (TabP v.tp 64 1099511627776 ⟨[], 0, 0⟩) (mapc v.cr .i64 v.cF))))))))))) ⟨fun j => [I 3, Sk z.pb z.po 3 z.pc, I 1000, Sk z.wb z.wo 3 z.wc, Sk yy.vb yy.vo n yy.vc].getD j Tt, x.bg, Sk (y 1) (y 2) 1 (y 3), lr, cr, y 0, tp, y 4, y 5, y 6, f, fun _ => 0⟩)
theorem DB (n : Nat) (hn : n = 1 \/ n = 2 \/ n = 3) (x : Cf) (yy : VlA) (z : CfA) : FSpec prog 97 #[.agg (qq4 z yy n).toArray, I 1] (CfO n x yy z) (fun _ : Nat => True) (fun p => .tuple #[Pt p 0, I 0]) (fun p => (aa (CfO n x yy z) (RxP p n z.rb z.ro z.rc x.sm 0 0 ⟨[], 0, 0⟩))) :=
 fe (X := fun p => RxP p n z.rb z.ro z.rc x.sm 0 0 ⟨[], 0, 0⟩) (fun y : Nat × Nat × Nat × Nat => y.1) (HE n hn x yy z) fun y => RxP.make hn x yy z
theorem yj (n : Nat) (hn : n = 1 \/ n = 2 \/ n = 3) (x : Cf) (yy : VlA) (z : CfA) (h : Int) (hh : h = 0 \/ h = 2) : FSpec prog 97 #[.agg (qq4 z yy n).toArray, I h] (CfO n x yy z) (fun _ : Nat => True) (fun p => .tuple #[Pt p 0, I 0]) (fun p => (aa (CfO n x yy z) (emp))) :=
 fe (X := fun _ => emp) (fun y : Nat × Nat × Nat × Nat => y.1) (HF n hn x yy z h hh) fun y => Ent.emp _
theorem DD (n : Nat) (hn : n = 1 \/ n = 2 \/ n = 3) (x : Cf) (yy : VlA) (z : CfA) : FSpec prog 98 #[.agg (qq4 z yy n).toArray, I 1] (CfO n x yy z) (fun _ : Nat => True) (fun p => .tuple #[Pt p 0, I 0]) (fun p => (aa (CfO n x yy z) (RmP p []))) :=
 fe (X := fun p => RmP p []) (fun y : Nat => y) (HJ n hn x yy z) fun y => ah _
theorem ym (n : Nat) (hn : n = 1 \/ n = 2 \/ n = 3) (x : Cf) (yy : VlA) (z : CfA) (h : Int) (hh : h = 0 \/ h = 2) : FSpec prog 98 #[.agg (qq4 z yy n).toArray, I h] (CfO n x yy z) (fun _ : Nat => True) (fun p => .tuple #[Pt p 0, I 0]) (fun p => (aa (CfO n x yy z) (emp))) := by
 rcases hh with rfl | rfl
 ·exact fe (X := fun _ => emp) (fun y : Nat × Nat => y.1) (HI n hn x yy z) fun y => Ent.emp _
 ·exact fe (X := fun _ => emp) (fun y : Nat × Nat => y.1) (HH n hn x yy z) fun y => Ent.emp _
theorem yd (n : Nat) (hn : n = 1 \/ n = 2 \/ n = 3) (x : Cf) (yy : VlA) (z : CfA) (h : Int) (hh : h = 1 \/ h = 2) : FSpec prog 96 #[.agg (qq4 z yy n).toArray, I h] (CfO n x yy z) (fun _ : Nat => True) (fun p => .tuple #[Pt p 0, I 0]) (fun p => (aa (CfO n x yy z) (TxN p 0))) :=
 fe (X := fun p => TxN p 0) (fun y : Nat × Nat × Nat × Nat => y.1) (Hp n hn x yy z h hh) fun y => Ent.trans (Ent.take (Q := (aa (am y.1 [I 3, Sk z.pb z.po 3 z.pc, I 1000, Sk z.wb z.wo 3 z.wc, Sk yy.vb yy.vo n yy.vc, Sk z.rb z.ro (bL n) z.rc, I h, Mp y.2.1, Ns, Pt y.2.2.1 0, I 0, I 0, Mp y.2.2.2, I 0, Ns] 263) (LineP y.2.2.1 [] 0 0)))) (Ent.trans (Ent.lift (show (0 : Int) <= 0 /\ (0 : Int) <= 0 /\ (0 : Int) <= 0 by omega)) (bh (f := fun q : (Nat -> Value) × Nat × Int × Int × Int => (aa (SLA.lift (0 <= q.2.2.1 /\ q.2.2.1 <= 0 /\ q.2.2.2.1 <= 0)) (aa (am y.1 [q.1 0, q.1 1, q.1 2, q.1 3, q.1 4, q.1 5, q.1 6, q.1 7, Ns, Pt q.2.1 0, I q.2.2.1, q.1 8, q.1 9, q.1 10, Ns] 263) (LineP q.2.1 [] q.2.2.2.1 q.2.2.2.2)))) (fun j => [I 3, Sk z.pb z.po 3 z.pc, I 1000, Sk z.wb z.wo 3 z.wc, Sk yy.vb yy.vo n yy.vc, Sk z.rb z.ro (bL n) z.rc, I h, Mp y.2.1, I 0, Mp y.2.2.2, I 0].getD j Tt, y.2.2.1, 0, 0, 0)))
end Sp
end
namespace Sp
attribute [local irreducible] JU
abbrev CZ (a : CfA) (b : VlA) (c : Nat) : List Value := [I 3, Sk a.pb a.po 3 a.pc, I 1000, Sk a.wb a.wo 3 a.wc, Sk b.vb b.vo c b.vc, Sk a.rb a.ro (bL c) a.rc]
abbrev vG (a : CfA) : ab := Ow 3 1 (Sk a.pb a.po 3 a.pc) 3 [I 0, I 1, I 2]
abbrev vF (a : CfA) : ab := Ow 149 3 (Sk a.wb a.wo 3 a.wc) 3 [I 0, I 0, I 1000, I 1, I 0, I 1000, I 2, I 0, I 1000]
theorem Fw (n : Nat) (hn : n = 1 \/ n = 2 \/ n = 3) (x : Cf) (yy : VlA) (z : CfA) : FSpec prog 59 #[.agg (CZ z yy n).toArray, I 0] ((aa (vG z) (aa (vF z) (aa (dJ x n yy) (aa (qq3 n z) (TOS yy n)))))) (fun _ : Nat × Nat × Nat × Nat × Nat => True) (fun y => .tuple #[Pt y.1 0, I 0]) (fun y => (aa (vG z) (aa (vF z) (aa (dJ x n yy) (aa (qq3 n z) (aa (TOS yy n) (aa (az y.2.1 .i64 (fun m' => if m' = 0 then some (I 1) else (fun _ => none) m')) (aa (am y.1 [I 3, Sk z.pb z.po 3 z.pc, I 1000, Sk z.wb z.wo 3 z.wc, Sk yy.vb yy.vo n yy.vc, Sk z.rb z.ro (bL n) z.rc, I 0, Pt y.2.2.1 0, Pt y.2.2.2.1 0, Pt y.2.2.2.2 0, Mp y.2.1, I 0] 218) (TxQ y.2.2.1 n z.rb z.ro z.rc x.sm x.bg x.P 0 0 0 0 []))))))))) := by
 refine en func59 r fun _ F=>sr<|bx r fun b1=>eb r<|nr<|ls r<|ea r<|lx r (aU .i64 r) fun r2 _=>lv (af r) r<|bx r fun b3=>an r<|aE r<|js<|sa r<|ls r<|ea r<|cy (Dg n hn x yy z) r fun y4=>ed r<|fa 7 r<|so r r<|an r<|sb r<|nf r<|sk<|js<|sa r<|ls r<|ea r<|cy (yj n hn x yy z 0 (by decide)) r fun y5=>ed r<|fa 8 r<|so r r<|an r<|sb r<|nf r<|sk<|js<|sa r<|ls r<|ea r<|cy (ym n hn x yy z 0 (by decide)) r fun y6=>ed r<|fa 9 r<|so r r<|an r<|sb r<|nf r<|sk<|js<|sr<|lf 1 r r<|ll r<|an r<|jl<|ut r<|js<|jb<|sa r<|ix z.po r r<|lv (aF 0 r r r) r<|eb r<|nr<|ec r<|nt r ?_
 refine jg<|eb r<|lf 10 r r<|ea r<|lx r (dh r r r) fun _ _=>ln<|ni (I 1) r<|ut r<|js<|jb<|sa r<|ix (z.po + 1) r r<|lv (aF 1 r r r) r<|eb r<|nr<|ec r<|nf r<|jk<|ni (I 2) r<|ut r<|js<|jb<|sa r<|ix (z.po + 2) r r<|lv (aF 2 r r r) r<|eb r<|nr<|ec r<|nf r<|jk<|ni (I 3) r<|uf r<|kt<|sr<|ec r<|nk<|jr ?_
 exact bM r (.tmp r (.tmp r (.nil))) (b3, r2, y4, y5, y6) trivial r Ent.take
theorem Fv (n : Nat) (hn : n = 1 \/ n = 2 \/ n = 3) (x : Cf) (yy : VlA) (z : CfA) : FSpec prog 59 #[.agg (CZ z yy n).toArray, I 1] ((aa (vG z) (aa (vF z) (aa (dJ x n yy) (aa (qq3 n z) (TOS yy n)))))) (fun _ : Nat × Nat × Nat × Nat × Nat => True) (fun y => .tuple #[Pt y.1 0, I 0]) (fun y => (aa (vG z) (aa (vF z) (aa (dJ x n yy) (aa (qq3 n z) (aa (TOS yy n) (aa (az y.2.1 .i64 (fun m' => if m' = 1 then some (I 1) else (fun _ => none) m')) (aa (am y.1 [I 3, Sk z.pb z.po 3 z.pc, I 1000, Sk z.wb z.wo 3 z.wc, Sk yy.vb yy.vo n yy.vc, Sk z.rb z.ro (bL n) z.rc, I 1, Pt y.2.2.1 0, Pt y.2.2.2.1 0, Pt y.2.2.2.2 0, Mp y.2.1, I 0] 218) (aa (TxN y.2.2.1 0) (aa (RxP y.2.2.2.1 n z.rb z.ro z.rc x.sm 0 0 ⟨[], 0, 0⟩) (RmP y.2.2.2.2 []))))))))))) := by
 refine en func59 r fun _ F=>sr<|bx r fun b1=>eb r<|nr<|ls r<|ea r<|lx r (aU .i64 r) fun r2 _=>lv (af r) r<|bx r fun b3=>an r<|aE r<|js<|sa r<|ls r<|ea r<|cy (yd n hn x yy z 1 (by decide)) r fun y4=>ed r<|fa 7 r<|so r r<|an r<|sb r<|nf r<|sk<|js<|sa r<|ls r<|ea r<|cy (DB n hn x yy z) r fun y5=>ed r<|fa 8 r<|so r r<|an r<|sb r<|nf r<|sk<|js<|sa r<|ls r<|ea r<|cy (DD n hn x yy z) r fun y6=>ed r<|fa 9 r<|so r r<|an r<|sb r<|nf r<|sk<|js<|sr<|lf 1 r r<|ll r<|an r<|jl<|ut r<|js<|jb<|sa r<|ix z.po r r<|lv (aF 0 r r r) r<|eb r<|nr<|ec r<|nf r ?_
 refine jk<|ni (I 1) r<|ut r<|js<|jb<|sa r<|ix (z.po + 1) r r<|lv (aF 1 r r r) r<|eb r<|nr<|ec r<|nt r<|jg<|eb r<|lf 10 r r<|ea r<|lx r (dh r r r) fun _ _=>ln<|ni (I 2) r<|ut r<|js<|jb<|sa r<|ix (z.po + 2) r r<|lv (aF 2 r r r) r<|eb r<|nr<|ec r<|nf r<|jk<|ni (I 3) r<|uf r<|kt<|sr<|ec r<|nk<|jr ?_
 exact bM r (.tmp r (.tmp r (.nil))) (b3, r2, y4, y5, y6) trivial r Ent.take
theorem Fu (n : Nat) (hn : n = 1 \/ n = 2 \/ n = 3) (x : Cf) (yy : VlA) (z : CfA) : FSpec prog 59 #[.agg (CZ z yy n).toArray, I 2] ((aa (vG z) (aa (vF z) (aa (dJ x n yy) (aa (qq3 n z) (TOS yy n)))))) (fun _ : Nat × Nat × Nat × Nat × Nat => True) (fun y => .tuple #[Pt y.1 0, I 0]) (fun y => (aa (vG z) (aa (vF z) (aa (dJ x n yy) (aa (qq3 n z) (aa (TOS yy n) (aa (az y.2.1 .i64 (fun m' => if m' = 2 then some (I 1) else (fun _ => none) m')) (aa (am y.1 [I 3, Sk z.pb z.po 3 z.pc, I 1000, Sk z.wb z.wo 3 z.wc, Sk yy.vb yy.vo n yy.vc, Sk z.rb z.ro (bL n) z.rc, I 2, Pt y.2.2.1 0, Pt y.2.2.2.1 0, Pt y.2.2.2.2 0, Mp y.2.1, I 0] 218) (TxN y.2.2.1 0))))))))) := by
 refine en func59 r fun _ F=>sr<|bx r fun b1=>eb r<|nr<|ls r<|ea r<|lx r (aU .i64 r) fun r2 _=>lv (af r) r<|bx r fun b3=>an r<|aE r<|js<|sa r<|ls r<|ea r<|cy (yd n hn x yy z 2 (by decide)) r fun y4=>ed r<|fa 7 r<|so r r<|an r<|sb r<|nf r<|sk<|js<|sa r<|ls r<|ea r<|cy (yj n hn x yy z 2 (by decide)) r fun y5=>ed r<|fa 8 r<|so r r<|an r<|sb r<|nf r<|sk<|js<|sa r<|ls r<|ea r<|cy (ym n hn x yy z 2 (by decide)) r fun y6=>ed r<|fa 9 r<|so r r<|an r<|sb r<|nf r<|sk<|js<|sr<|lf 1 r r<|ll r<|an r<|jl<|ut r<|js<|jb<|sa r<|ix z.po r r<|lv (aF 0 r r r) r<|eb r<|nr<|ec r<|nf r ?_
 refine jk<|ni (I 1) r<|ut r<|js<|jb<|sa r<|ix (z.po + 1) r r<|lv (aF 1 r r r) r<|eb r<|nr<|ec r<|nf r<|jk<|ni (I 2) r<|ut r<|js<|jb<|sa r<|ix (z.po + 2) r r<|lv (aF 2 r r r) r<|eb r<|nr<|ec r<|nt r<|jg<|eb r<|lf 10 r r<|ea r<|lx r (dh r r r) fun _ _=>ln<|ni (I 3) r<|uf r<|kt<|sr<|ec r<|nk<|jr ?_
 exact bM r (.tmp r (.tmp r (.nil))) (b3, r2, y4, y5, y6) trivial r Ent.take
end Sp
section
namespace Sp
open Mq
def fJ (n : Nat) (x : Cf) (yy : VlA) (z : CfA) : NC := ⟨{ z with vl := Sk yy.vb yy.vo n yy.vc }, n, x.sm, x.bg, x.P, Jt x n⟩
theorem DY (n : Nat) (hn : n = 1 \/ n = 2 \/ n = 3) (x : Cf) (yy : VlA) (z : CfA) : FSpec prog 59 #[.agg [I 3, Sk z.pb z.po 3 z.pc, I 1000, Sk z.wb z.wo 3 z.wc, Sk yy.vb yy.vo n yy.vc, Sk z.rb z.ro (bL n) z.rc].toArray, I 0] (CfO n x yy z) (fun _ : Nat => True) (fun p => .tuple #[Pt p 0, I 0]) (fun p => (aa (CfO n x yy z) (K0 (fJ n x yy z) 1 0 (kA (fJ n x yy z) 0 0 0 0 []) p))) :=
 fe (X := fun p => K0 (fJ n x yy z) 1 0 (kA (fJ n x yy z) 0 0 0 0 []) p) (fun y : Nat × Nat × Nat × Nat × Nat => y.1) (Fw n hn x yy z) fun y => by
  refine Ent.trans (Ent.take (Q := (aa (TxQ y.2.2.1 n z.rb z.ro z.rc x.sm x.bg x.P 0 0 0 0 []) ((aa (am y.1 [I 3, Sk z.pb z.po 3 z.pc, I 1000, Sk z.wb z.wo 3 z.wc, Sk yy.vb yy.vo n yy.vc, Sk z.rb z.ro (bL n) z.rc, I 0, Pt y.2.2.1 0, Pt y.2.2.2.1 0, Pt y.2.2.2.2 0, Mp y.2.1, I 0] 218) (az y.2.1 .i64 (fun m' => if m' = 0 then some (I 1) else (fun _ => none) m'))))))) (Ent.trans (Ent.frame (show Ent _ (kA (fJ n x yy z) 0 0 0 0 [] y.2.2.1) from exl (A := fun tn => TxQ y.2.2.1 n z.rb z.ro z.rc x.sm x.bg x.P 0 0 tn 0 []) 0 (Int.le_refl _)) _) ?_)
  exact Ent.trans (Ent.take (Q := (aa (am y.1 [I 3, Sk z.pb z.po 3 z.pc, I 1000, Sk z.wb z.wo 3 z.wc, Sk yy.vb yy.vo n yy.vc, Sk z.rb z.ro (bL n) z.rc, I 0, Pt y.2.2.1 0, Pt y.2.2.2.1 0, Pt y.2.2.2.2 0, Mp y.2.1, I 0] 218) (aa (az y.2.1 .i64 (fun m' => if m' = 0 then some (I 1) else (fun _ => none) m')) (kA (fJ n x yy z) 0 0 0 0 [] y.2.2.1))))) (Ent.trans (Ent.of (show (aa (am y.1 [I 3, Sk z.pb z.po 3 z.pc, I 1000, Sk z.wb z.wo 3 z.wc, Sk yy.vb yy.vo n yy.vc, Sk z.rb z.ro (bL n) z.rc, I 0, Pt y.2.2.1 0, Pt y.2.2.2.1 0, Pt y.2.2.2.2 0, Mp y.2.1, I 0] 218) (aa (az y.2.1 .i64 (fun m' => if m' = 0 then some (I 1) else (fun _ => none) m')) (kA (fJ n x yy z) 0 0 0 0 [] y.2.2.1))) = (aa (am y.1 [I 3, Sk z.pb z.po 3 z.pc, I 1000, Sk z.wb z.wo 3 z.wc, Sk yy.vb yy.vo n yy.vc, Sk z.rb z.ro (bL n) z.rc, I 0, Pt y.2.2.1 0, Pt y.2.2.2.1 0, Pt y.2.2.2.2 0, Mp y.2.1, I 0] 218) (aa (az y.2.1 .i64 (fun m' => if m' = 0 then some (I 1) else (fun _ => none) m')) (aa (kA (fJ n x yy z) 0 0 0 0 [] y.2.2.1) (emp)))) by rw [cR])) (KrP.fold (k := y.1) (z := (fJ n x yy z).z) (n := (fJ n x yy z).n) (host := 0) (nn := 0) (m0 := some (I 1)) (m1 := none) (A := kA (fJ n x yy z) 0 0 0 0 []) (B := fun _ _ => emp) ⟨y.2.2.1, y.2.2.2.1, y.2.2.2.2, y.2.1, (fun m' => if m' = 0 then some (I 1) else (fun _ => none) m'), 0⟩ ⟨Int.le_refl _, rfl, rfl⟩))
abbrev _root_.Go.qq55 (a : Nat) (b : Cf) (c : VlA) (d : CfA) := BxP (fJ a b c d).z (fJ a b c d).n (fJ a b c d).sm 0 0 ⟨[], 0, 0⟩ []
theorem DX (n : Nat) (hn : n = 1 \/ n = 2 \/ n = 3) (x : Cf) (yy : VlA) (z : CfA) : FSpec prog 59 #[.agg [I 3, Sk z.pb z.po 3 z.pc, I 1000, Sk z.wb z.wo 3 z.wc, Sk yy.vb yy.vo n yy.vc, Sk z.rb z.ro (bL n) z.rc].toArray, I 1] (CfO n x yy z) (fun _ : Nat => True) (fun p => .tuple #[Pt p 0, I 0]) (fun p => (aa (CfO n x yy z) (K1 (fJ n x yy z) 1 0 (qq55 n x yy z) p))) :=
 fe (X := fun p => K1 (fJ n x yy z) 1 0 (qq55 n x yy z) p) (fun y : Nat × Nat × Nat × Nat × Nat => y.1) (Fv n hn x yy z) fun y => by
  refine Ent.trans (Ent.take (Q := (aa ((aa (RxP y.2.2.2.1 n z.rb z.ro z.rc x.sm 0 0 ⟨[], 0, 0⟩) ((aa (RmP y.2.2.2.2 []) (TxN y.2.2.1 0))))) ((aa (am y.1 [I 3, Sk z.pb z.po 3 z.pc, I 1000, Sk z.wb z.wo 3 z.wc, Sk yy.vb yy.vo n yy.vc, Sk z.rb z.ro (bL n) z.rc, I 1, Pt y.2.2.1 0, Pt y.2.2.2.1 0, Pt y.2.2.2.2 0, Mp y.2.1, I 0] 218) (az y.2.1 .i64 (fun m' => if m' = 1 then some (I 1) else (fun _ => none) m'))))))) (Ent.trans (Ent.frame (show Ent _ (aa ((aa ((SLA.ex fun xn : Int => (aa (SLA.lift (0 <= xn /\ xn <= 0)) (RxP y.2.2.2.1 n z.rb z.ro z.rc x.sm 0 xn ⟨[], 0, 0⟩)))) (RmP y.2.2.2.2 []))) (TxN y.2.2.1 0)) from Ent.trans (Ent.frame (exl (p := fun xn => 0 <= xn /\ xn <= 0) (A := fun xn => RxP y.2.2.2.1 n z.rb z.ro z.rc x.sm 0 xn ⟨[], 0, 0⟩) 0 (by omega)) _) (Ent.of (ak _ _ _).symm)) _) ?_)
  exact Ent.trans (Ent.take (Q := (aa (am y.1 [I 3, Sk z.pb z.po 3 z.pc, I 1000, Sk z.wb z.wo 3 z.wc, Sk yy.vb yy.vo n yy.vc, Sk z.rb z.ro (bL n) z.rc, I 1, Pt y.2.2.1 0, Pt y.2.2.2.1 0, Pt y.2.2.2.2 0, Mp y.2.1, I 0] 218) (aa (az y.2.1 .i64 (fun m' => if m' = 1 then some (I 1) else (fun _ => none) m')) (aa (TxN y.2.2.1 0) ((aa ((SLA.ex fun xn : Int => (aa (SLA.lift (0 <= xn /\ xn <= 0)) (RxP y.2.2.2.1 n z.rb z.ro z.rc x.sm 0 xn ⟨[], 0, 0⟩)))) (RmP y.2.2.2.2 [])))))))) (Ent.trans (Ent.of (show (aa (am y.1 [I 3, Sk z.pb z.po 3 z.pc, I 1000, Sk z.wb z.wo 3 z.wc, Sk yy.vb yy.vo n yy.vc, Sk z.rb z.ro (bL n) z.rc, I 1, Pt y.2.2.1 0, Pt y.2.2.2.1 0, Pt y.2.2.2.2 0, Mp y.2.1, I 0] 218) (aa (az y.2.1 .i64 (fun m' => if m' = 1 then some (I 1) else (fun _ => none) m')) (aa (TxN y.2.2.1 0) ((aa ((SLA.ex fun xn : Int => (aa (SLA.lift (0 <= xn /\ xn <= 0)) (RxP y.2.2.2.1 n z.rb z.ro z.rc x.sm 0 xn ⟨[], 0, 0⟩)))) (RmP y.2.2.2.2 [])))))) = (aa (am y.1 [I 3, Sk z.pb z.po 3 z.pc, I 1000, Sk z.wb z.wo 3 z.wc, Sk yy.vb yy.vo n yy.vc, Sk z.rb z.ro (bL n) z.rc, I 1, Pt y.2.2.1 0, Pt y.2.2.2.1 0, Pt y.2.2.2.2 0, Mp y.2.1, I 0] 218) (aa (az y.2.1 .i64 (fun m' => if m' = 1 then some (I 1) else (fun _ => none) m')) (aa (TxN y.2.2.1 0) (BxP (fJ n x yy z).z (fJ n x yy z).n (fJ n x yy z).sm 0 0 ⟨[], 0, 0⟩ [] y.2.2.2.1 y.2.2.2.2)))) by rfl)) (KrP.fold (k := y.1) (z := (fJ n x yy z).z) (n := (fJ n x yy z).n) (host := 1) (nn := 0) (m0 := none) (m1 := some (I 1)) (A := fun tx => TxN tx 0) (B := BxP (fJ n x yy z).z (fJ n x yy z).n (fJ n x yy z).sm 0 0 ⟨[], 0, 0⟩ []) ⟨y.2.2.1, y.2.2.2.1, y.2.2.2.2, y.2.1, (fun m' => if m' = 1 then some (I 1) else (fun _ => none) m'), 0⟩ ⟨Int.le_refl _, rfl, rfl⟩))
theorem DW (n : Nat) (hn : n = 1 \/ n = 2 \/ n = 3) (x : Cf) (yy : VlA) (z : CfA) : FSpec prog 59 #[.agg [I 3, Sk z.pb z.po 3 z.pc, I 1000, Sk z.wb z.wo 3 z.wc, Sk yy.vb yy.vo n yy.vc, Sk z.rb z.ro (bL n) z.rc].toArray, I 2] (CfO n x yy z) (fun _ : Nat => True) (fun p => .tuple #[Pt p 0, I 0]) (fun p => (aa (CfO n x yy z) (K2 (fJ n x yy z) 0 p))) :=
 fe (X := fun p => K2 (fJ n x yy z) 0 p) (fun y : Nat × Nat × Nat × Nat × Nat => y.1) (Fu n hn x yy z) fun y => by
  refine Ent.trans (Ent.take (Q := (aa (TxN y.2.2.1 0) ((aa (am y.1 [I 3, Sk z.pb z.po 3 z.pc, I 1000, Sk z.wb z.wo 3 z.wc, Sk yy.vb yy.vo n yy.vc, Sk z.rb z.ro (bL n) z.rc, I 2, Pt y.2.2.1 0, Pt y.2.2.2.1 0, Pt y.2.2.2.2 0, Mp y.2.1, I 0] 218) (az y.2.1 .i64 (fun m' => if m' = 2 then some (I 1) else (fun _ => none) m'))))))) (Ent.trans (Ent.frame (ah _) _) ?_)
  exact Ent.trans (Ent.take (Q := (aa (am y.1 [I 3, Sk z.pb z.po 3 z.pc, I 1000, Sk z.wb z.wo 3 z.wc, Sk yy.vb yy.vo n yy.vc, Sk z.rb z.ro (bL n) z.rc, I 2, Pt y.2.2.1 0, Pt y.2.2.2.1 0, Pt y.2.2.2.2 0, Mp y.2.1, I 0] 218) (aa (az y.2.1 .i64 (fun m' => if m' = 2 then some (I 1) else (fun _ => none) m')) (TxN y.2.2.1 0))))) (Ent.trans (Ent.of (show (aa (am y.1 [I 3, Sk z.pb z.po 3 z.pc, I 1000, Sk z.wb z.wo 3 z.wc, Sk yy.vb yy.vo n yy.vc, Sk z.rb z.ro (bL n) z.rc, I 2, Pt y.2.2.1 0, Pt y.2.2.2.1 0, Pt y.2.2.2.2 0, Mp y.2.1, I 0] 218) (aa (az y.2.1 .i64 (fun m' => if m' = 2 then some (I 1) else (fun _ => none) m')) (TxN y.2.2.1 0))) = (aa (am y.1 [I 3, Sk z.pb z.po 3 z.pc, I 1000, Sk z.wb z.wo 3 z.wc, Sk yy.vb yy.vo n yy.vc, Sk z.rb z.ro (bL n) z.rc, I 2, Pt y.2.2.1 0, Pt y.2.2.2.1 0, Pt y.2.2.2.2 0, Mp y.2.1, I 0] 218) (aa (az y.2.1 .i64 (fun m' => if m' = 2 then some (I 1) else (fun _ => none) m')) (aa (TxN y.2.2.1 0) (emp)))) by rw [cR])) (KrP.fold (k := y.1) (z := (fJ n x yy z).z) (n := (fJ n x yy z).n) (host := 2) (nn := 0) (m0 := none) (m1 := none) (A := fun tx => TxN tx 0) (B := fun _ _ => emp) ⟨y.2.2.1, y.2.2.2.1, y.2.2.2.2, y.2.1, (fun m' => if m' = 2 then some (I 1) else (fun _ => none) m'), 0⟩ ⟨Int.le_refl _, rfl, rfl⟩))
end Sp
end
namespace Sp
attribute [local irreducible] JU
abbrev Gk (a : CfA) : ab := Ow 3 1 (Sk a.pb a.po 3 a.pc) 3 [I 0, I 1, I 2]
abbrev Gj (a : CfA) : ab := Ow 149 3 (Sk a.wb a.wo 3 a.wc) 3 [I 0, I 0, I 1000, I 1, I 0, I 1000, I 2, I 0, I 1000]
theorem HO (n : Nat) (hn : n = 1 \/ n = 2 \/ n = 3) (x : Cf) (yy : VlA) (z : CfA) : FSpec prog 17 #[.agg [I 3, Sk z.pb z.po 3 z.pc, I 1000, Sk z.wb z.wo 3 z.wc, Sk yy.vb yy.vo n yy.vc, Sk z.rb z.ro (bL n) z.rc].toArray] ((aa (Gk z) (aa (Gj z) (aa (dJ x n yy) (aa (qq3 n z) (TOS yy n)))))) (fun _ : Nat × Nat × Nat × Nat × Nat × Nat × Nat × Nat × Nat × Nat × Nat => True) (fun y => .tuple #[Pt y.1 0, I 0]) (fun y => (aa (Gk z) (aa (Gj z) (aa (dJ x n yy) (aa (qq3 n z) (aa (TOS yy n) (aa (eX y.2.1 [.int .i64, .int .i64, .int .i64] (fun _ => none)) (aa (mapc y.2.2.1 .i64 (fun _ => 0)) (aa (am y.1 [I 3, Sk z.pb z.po 3 z.pc, I 1000, Sk z.wb z.wo 3 z.wc, Sk yy.vb yy.vo n yy.vc, Sk z.rb z.ro (bL n) z.rc, Sk y.2.2.2.1 y.2.2.2.2.1 3 y.2.2.2.2.2.1, Pt y.2.2.2.2.2.2.1 0, Pt y.2.2.2.2.2.2.2.1 0, Mp y.2.1, Mp y.2.2.1, Ns, I 0] 142) (aa (SwI y.2.2.2.2.2.2.1 n 0 x.sm x.bg x.P (Jt x n) 0 0) (aa (SwI y.2.2.2.2.2.2.2.1 n 1 x.sm x.bg x.P (Jt x n) 0 0) (aa (K0 (fJ n x yy z) 1 0 (kA (fJ n x yy z) 0 0 0 0 []) y.2.2.2.2.2.2.2.2.1) (aa (K1 (fJ n x yy z) 1 0 (qq55 n x yy z) y.2.2.2.2.2.2.2.2.2.1) (aa (K2 (fJ n x yy z) 0 y.2.2.2.2.2.2.2.2.2.2) (Ow 145 1 (Sk y.2.2.2.1 y.2.2.2.2.1 3 y.2.2.2.2.2.1) 3 [Pt y.2.2.2.2.2.2.2.2.1 0, Pt y.2.2.2.2.2.2.2.2.2.1 0, Pt y.2.2.2.2.2.2.2.2.2.2 0]))))))))))))))) := by
 refine en func17 r fun _ F=>sr<|bx r fun b1=>eb r<|nj<|sr<|ls r<|cy (lV n hn x yy z) r fun _=>ec r<|al r fun b2=>so r r<|an r<|sb r<|nf r<|sk<|sr<|ls r<|lx r (lE [.int .i64, .int .i64, .int .i64] r) fun r3 _=>lx r (i5 .i64 r) fun r4 _=>lv (af r) r<|bx r fun b5=>an r<|js<|aE r<|jl<|ut r<|js<|jb<|sb r<|nr<|ls r<|ea r<|cy (BU n hn x yy z 0 (by decide)) r fun y6=>ed r<|an r<|js<|sb r<|nf r<|sk<|jg<|ed r<|fa 7 r<|lv (bZ 7 r r r r) r<|so r r<|ln<|ni (I 1) r<|ut r<|js<|jb<|sb r<|nr<|ls r<|ea r<|cy (BU n hn x yy z 1 (by decide)) r fun y7=>ed r<|an r<|js<|sb r<|nf r<|sk<|jg<|ed r<|fa 7 r<|lv (bZ 8 r r r r) r ?_
 refine so r r<|ln<|ni (I 2) r<|uf r<|kt<|js<|sr<|lf 0 r r<|an r<|jl<|ut r<|js<|jb<|sb r<|nr<|ls r<|ea r<|cy (DY n hn x yy z) r fun y8=>ed r<|an r<|js<|sb r<|nf r<|sk<|jg<|ec r<|lf 6 r r<|ea r<|lx r (aq (m := 1) r r (by decide) (by decide) r) fun b9 _=>lx r (gB (m := 1) (B := 8) 1 r r (Src.lit) r r r (List.all_eq_true.1 r) r r r r) fun z10 _=>ea r<|fa 6 r<|so r r<|ln<|ni (I 1) r<|ut r<|js<|jb<|sb r<|nr<|ls r<|ea r<|cy (DX n hn x yy z) r fun y11=>ed r<|an r<|js<|sb r<|nf r<|sk<|jg<|ec r<|lf 6 r r<|ea r<|lx r (aq (m := 1) r r (by decide) (by decide) r) fun b12 _=>lx r (dI (m := 1) (B := 8) 2 r r (Src.lit) r r r (List.all_eq_true.1 r) r r r r) fun z13 _=>ea r<|fa 6 r<|so r r<|ln<|ni (I 2) r<|ut r<|js<|jb<|sb r ?_
 refine nr<|ls r<|ea r<|cy (DW n hn x yy z) r fun y14=>ed r<|an r<|js<|sb r<|nf r<|sk<|jg<|ec r<|lf 6 r r<|ea r<|lx r (aq (m := 1) r r (by decide) (by decide) r) fun b15 _=>lx r (dI (m := 1) (B := 8) 3 r r (Src.lit) r r r (List.all_eq_true.1 r) r r r r) fun z16 _=>ea r<|fa 6 r<|so r r<|ln<|ni (I 3) r<|uf r<|kt<|sr<|ec r<|nk<|jr ?_
 exact bM r (.tmp r (.tmp r (.nil))) (b5, r3, r4, z16.1, z16.2.1, z16.2.2, y6, y7, y8, y11, y14) trivial r Ent.take
end Sp
section
namespace Sp
open Mq
theorem sI.make (n : Nat) (hn : n = 1 \/ n = 2 \/ n = 3) (x : Cf) (yy : VlA) (z : CfA) (g : Int) (p : Nat) : Ent (SwI p n g x.sm x.bg x.P (Jt x n) 0 0) (sI (fJ n x yy z) g 0 0 p) := exl (p := fun tn => tn <= 0) (A := fun tn => SwI p n g x.sm x.bg x.P (Jt x n) tn 0) 0 (Int.le_refl _)
theorem tZ (n : Nat) (hn : n = 1 \/ n = 2 \/ n = 3) (x : Cf) (yy : VlA) (z : CfA) : FSpec prog 17 #[.agg (qq4 z yy n).toArray] (CfO n x yy z) (fun r : NC × Nat => NCH r.1 /\ r.1.sm = x.sm) (fun r => .tuple #[Pt r.2 0, I 0]) (fun r => jy r.1 r.2 1 1 0 0 oM) :=
 (HO n hn x yy z).conseq (ah _) fun y _ => ⟨((fJ n x yy z), y.1), ⟨⟨hn, ⟨x.h.1, x.h.2.1⟩, x.h.2.2⟩, rfl⟩, rfl, by
  refine Ent.trans (Ent.take (Q := (aa (SwI y.2.2.2.2.2.2.1 n 0 x.sm x.bg x.P (Jt x n) 0 0) (aa (SwI y.2.2.2.2.2.2.2.1 n 1 x.sm x.bg x.P (Jt x n) 0 0) ((aa (am y.1 [I 3, Sk z.pb z.po 3 z.pc, I 1000, Sk z.wb z.wo 3 z.wc, Sk yy.vb yy.vo n yy.vc, Sk z.rb z.ro (bL n) z.rc, Sk y.2.2.2.1 y.2.2.2.2.1 3 y.2.2.2.2.2.1, Pt y.2.2.2.2.2.2.1 0, Pt y.2.2.2.2.2.2.2.1 0, Mp y.2.1, Mp y.2.2.1, Ns, I 0] 142) (aa (Ow 145 1 (Sk y.2.2.2.1 y.2.2.2.2.1 3 y.2.2.2.2.2.1) 3 [Pt y.2.2.2.2.2.2.2.2.1 0, Pt y.2.2.2.2.2.2.2.2.2.1 0, Pt y.2.2.2.2.2.2.2.2.2.2 0]) (aa (eX y.2.1 [.int .i64, .int .i64, .int .i64] (fun _ => none)) (aa (mapc y.2.2.1 .i64 (fun _ => 0)) (aa (K0 (fJ n x yy z) 1 0 (kA (fJ n x yy z) 0 0 0 0 []) y.2.2.2.2.2.2.2.2.1) (aa (K1 (fJ n x yy z) 1 0 (BxP (fJ n x yy z).z (fJ n x yy z).n (fJ n x yy z).sm 0 0 ⟨[], 0, 0⟩ []) y.2.2.2.2.2.2.2.2.2.1) (aa (K2 (fJ n x yy z) 0 y.2.2.2.2.2.2.2.2.2.2) ((qq1 z n)))))))))))))) (Ent.trans (cK (sI.make n hn x yy z 0 y.2.2.2.2.2.2.1) (Ent.frame (sI.make n hn x yy z 1 y.2.2.2.2.2.2.2.1) _)) ?_)
  exact Ent.trans (Ent.take (Q := (aa (am y.1 [I 3, Sk z.pb z.po 3 z.pc, I 1000, Sk z.wb z.wo 3 z.wc, Sk yy.vb yy.vo n yy.vc, Sk z.rb z.ro (bL n) z.rc, Sk y.2.2.2.1 y.2.2.2.2.1 3 y.2.2.2.2.2.1, Pt y.2.2.2.2.2.2.1 0, Pt y.2.2.2.2.2.2.2.1 0, Mp y.2.1, Mp y.2.2.1, Ns, I 0] 142) (aa (Ow 145 1 (Sk y.2.2.2.1 y.2.2.2.2.1 3 y.2.2.2.2.2.1) 3 [Pt y.2.2.2.2.2.2.2.2.1 0, Pt y.2.2.2.2.2.2.2.2.2.1 0, Pt y.2.2.2.2.2.2.2.2.2.2 0]) (aa (eX y.2.1 [.int .i64, .int .i64, .int .i64] (fun _ => none)) (aa (mapc y.2.2.1 .i64 (fun _ => 0)) (aa (K0 (fJ n x yy z) 1 0 (kA (fJ n x yy z) 0 0 0 0 []) y.2.2.2.2.2.2.2.2.1) (aa (K1 (fJ n x yy z) 1 0 (BxP (fJ n x yy z).z (fJ n x yy z).n (fJ n x yy z).sm 0 0 ⟨[], 0, 0⟩ []) y.2.2.2.2.2.2.2.2.2.1) (aa (K2 (fJ n x yy z) 0 y.2.2.2.2.2.2.2.2.2.2) (aa (sI (fJ n x yy z) 0 0 0 y.2.2.2.2.2.2.1) (aa (sI (fJ n x yy z) 1 0 0 y.2.2.2.2.2.2.2.1) ((qq1 z n))))))))))))) (show Ent _ (NetG y.1 (fJ n x yy z).z (fJ n x yy z).n 0 (fC0 (fJ n x yy z) 1 0 oM) (fC1 (fJ n x yy z) 1 oM) (fC2 (fJ n x yy z) oM) (fU (fJ n x yy z) oM) (fV (fJ n x yy z) oM)) from NetG.fold (nb := y.1) (z := (fJ n x yy z).z) (n := (fJ n x yy z).n) (nn := 0) (C0 := fC0 (fJ n x yy z) 1 0 oM) (C1 := fC1 (fJ n x yy z) 1 oM) (C2 := fC2 (fJ n x yy z) oM) (U := fU (fJ n x yy z) oM) (V := fV (fJ n x yy z) oM) ⟨y.2.2.2.1, y.2.2.2.2.1, y.2.2.2.2.2.1, y.2.1, y.2.2.1, y.2.2.2.2.2.2.2.2.1, y.2.2.2.2.2.2.2.2.2.1, y.2.2.2.2.2.2.2.2.2.2, y.2.2.2.2.2.2.1, y.2.2.2.2.2.2.2.1, fun _ => 0⟩)⟩
abbrev _root_.Go.qq44 (a : Nat × Nat × Nat × Nat × Nat × Nat × Nat × Nat × Nat) := cE 1 a.2.2.2.2.2.1 a.2.2.2.2.2.2.1 a.2.2.2.2.2.2.2.1
theorem Iq (x : Cf) (y : Nat × Nat × Nat × Nat × Nat × Nat × Nat × Nat × Nat) : Ent (aa (am y.1 [I 0, I 1, I 2] 3) (aa (am y.2.1 [I 0, I 0, I 1000, I 1, I 0, I 1000, I 2, I 0, I 1000] 149) (aa (am y.2.2.2.2.2.2.2.2 [I 1] 3) (aa (Ow 151 8 (Sk y.2.2.1 y.2.2.2.1 1 y.2.2.2.2.1) 1 [I 10, I 0, I x.bg, I x.sm, Ff, I 2, I 60000, Sk y.2.2.2.2.2.2.2.2 0 1 1]) (qq44 y))))) (CfO 1 x ⟨y.2.2.1, y.2.2.2.1, y.2.2.2.2.1, fun j => y.2.2.2.2.2.2.2.2, fun _ => 0, fun _ => 1⟩ ⟨y.1, 0, 3, y.2.1, 0, 3, y.2.2.2.2.2.1, y.2.2.2.2.2.2.1, y.2.2.2.2.2.2.2.1, Tt⟩) := by
 refine Ent.trans (cK (Ow.lit (e := 3) (m := 1) (len := 3) rfl (by decide)) (cK (Ow.lit (e := 149) (m := 3) (len := 3) rfl (by decide)) (cK (Ow.lit (e := 3) (m := 1) (len := 1) rfl (by decide)) (ah _))))<|Ent.trans (Ent.take (Q := (aa (Ow 3 1 (Sk y.1 0 3 3) 3 [I 0, I 1, I 2]) (aa (Ow 149 3 (Sk y.2.1 0 3 3) 3 [I 0, I 0, I 1000, I 1, I 0, I 1000, I 2, I 0, I 1000]) (aa (Ow 151 8 (Sk y.2.2.1 y.2.2.2.1 1 y.2.2.2.2.1) 1 [I 10, I 0, I x.bg, I x.sm, Ff, I 2, I 60000, Sk y.2.2.2.2.2.2.2.2 0 1 1]) (aa (qq44 y) (Ow 3 1 (Sk y.2.2.2.2.2.2.2.2 0 1 1) 1 [I 1]))))))) ?_
 exact Ent.trans (Ent.of (show (aa (Ow 3 1 (Sk y.1 0 3 3) 3 [I 0, I 1, I 2]) (aa (Ow 149 3 (Sk y.2.1 0 3 3) 3 [I 0, I 0, I 1000, I 1, I 0, I 1000, I 2, I 0, I 1000]) (aa (Ow 151 8 (Sk y.2.2.1 y.2.2.2.1 1 y.2.2.2.2.1) 1 [I 10, I 0, I x.bg, I x.sm, Ff, I 2, I 60000, Sk y.2.2.2.2.2.2.2.2 0 1 1]) (aa (qq44 y) (Ow 3 1 (Sk y.2.2.2.2.2.2.2.2 0 1 1) 1 [I 1]))))) = (aa (Ow 3 1 (Sk y.1 0 3 3) 3 [I 0, I 1, I 2]) (aa (Ow 149 3 (Sk y.2.1 0 3 3) 3 [I 0, I 0, I 1000, I 1, I 0, I 1000, I 2, I 0, I 1000]) (aa (Ow 151 8 (Sk y.2.2.1 y.2.2.2.1 1 y.2.2.2.2.1) 1 [I 10, I 0, I x.bg, I x.sm, Ff, I 2, I 60000, Sk y.2.2.2.2.2.2.2.2 0 1 1]) (aa (qq44 y) ((aa (Ow 3 1 (Sk y.2.2.2.2.2.2.2.2 0 1 1) 1 [I 1]) (emp))))))) by rw [cR])) (ah _)
theorem GU (x : Cf) (hn : x.n = 1) : ∃ (Y : Type) (V : Y -> Value) (H : Y -> ab), (FSpec prog 18 #[.agg [I x.L, I x.S, I x.G].toArray] emp (fun _ : Y => True) V H) /\ ∀ y, FSpec prog 17 #[V y] (H y) (fun r : NC × Nat => NCH r.1 /\ r.1.sm = x.sm) (fun r => .tuple #[Pt r.2 0, I 0]) (fun r => jy r.1 r.2 1 1 0 0 oM) :=
 ⟨_, _, _, Gb x hn, fun y => (tZ 1 (by decide) x ⟨y.2.2.1, y.2.2.2.1, y.2.2.2.2.1, fun j => y.2.2.2.2.2.2.2.2, fun _ => 0, fun _ => 1⟩ ⟨y.1, 0, 3, y.2.1, 0, 3, y.2.2.2.2.2.1, y.2.2.2.2.2.2.1, y.2.2.2.2.2.2.2.1, Tt⟩).conseq (Ent.trans (Iq x y) (ah _)) fun r hr => ⟨r, hr, rfl, ah _⟩⟩
abbrev _root_.Go.qq48 (a : Nat × Nat × Nat × Nat × Nat × Nat × Nat × Nat × Nat × Nat) := cE 2 a.2.2.2.2.2.1 a.2.2.2.2.2.2.1 a.2.2.2.2.2.2.2.1
theorem Ip (x : Cf) (y : Nat × Nat × Nat × Nat × Nat × Nat × Nat × Nat × Nat × Nat) : Ent (aa (am y.1 [I 0, I 1, I 2] 3) (aa (am y.2.1 [I 0, I 0, I 1000, I 1, I 0, I 1000, I 2, I 0, I 1000] 149) (aa (am y.2.2.2.2.2.2.2.2.1 [I 1] 3) (aa (am y.2.2.2.2.2.2.2.2.2 [I 1] 3) (aa (Ow 151 8 (Sk y.2.2.1 y.2.2.2.1 2 y.2.2.2.2.1) 2 [I 10, I 0, I x.bg, I x.sm, Ff, I 2, I 60000, Sk y.2.2.2.2.2.2.2.2.1 0 1 1, I 11, I 0, I x.bg, I x.sm, Tt, I 2, I 60000, Sk y.2.2.2.2.2.2.2.2.2 0 1 1]) (qq48 y)))))) (CfO 2 x ⟨y.2.2.1, y.2.2.2.1, y.2.2.2.2.1, fun j => if j = 0 then y.2.2.2.2.2.2.2.2.1 else y.2.2.2.2.2.2.2.2.2, fun _ => 0, fun _ => 1⟩ ⟨y.1, 0, 3, y.2.1, 0, 3, y.2.2.2.2.2.1, y.2.2.2.2.2.2.1, y.2.2.2.2.2.2.2.1, Tt⟩) := by
 refine Ent.trans (cK (Ow.lit (e := 3) (m := 1) (len := 3) rfl (by decide)) (cK (Ow.lit (e := 149) (m := 3) (len := 3) rfl (by decide)) (cK (Ow.lit (e := 3) (m := 1) (len := 1) rfl (by decide)) (cK (Ow.lit (e := 3) (m := 1) (len := 1) rfl (by decide)) (ah _)))))<|Ent.trans (Ent.take (Q := (aa (Ow 3 1 (Sk y.1 0 3 3) 3 [I 0, I 1, I 2]) (aa (Ow 149 3 (Sk y.2.1 0 3 3) 3 [I 0, I 0, I 1000, I 1, I 0, I 1000, I 2, I 0, I 1000]) (aa (Ow 151 8 (Sk y.2.2.1 y.2.2.2.1 2 y.2.2.2.2.1) 2 [I 10, I 0, I x.bg, I x.sm, Ff, I 2, I 60000, Sk y.2.2.2.2.2.2.2.2.1 0 1 1, I 11, I 0, I x.bg, I x.sm, Tt, I 2, I 60000, Sk y.2.2.2.2.2.2.2.2.2 0 1 1]) (aa (qq48 y) ((aa (Ow 3 1 (Sk y.2.2.2.2.2.2.2.2.2 0 1 1) 1 [I 1]) (Ow 3 1 (Sk y.2.2.2.2.2.2.2.2.1 0 1 1) 1 [I 1]))))))))) ?_
 exact Ent.trans (Ent.of (show (aa (Ow 3 1 (Sk y.1 0 3 3) 3 [I 0, I 1, I 2]) (aa (Ow 149 3 (Sk y.2.1 0 3 3) 3 [I 0, I 0, I 1000, I 1, I 0, I 1000, I 2, I 0, I 1000]) (aa (Ow 151 8 (Sk y.2.2.1 y.2.2.2.1 2 y.2.2.2.2.1) 2 [I 10, I 0, I x.bg, I x.sm, Ff, I 2, I 60000, Sk y.2.2.2.2.2.2.2.2.1 0 1 1, I 11, I 0, I x.bg, I x.sm, Tt, I 2, I 60000, Sk y.2.2.2.2.2.2.2.2.2 0 1 1]) (aa (qq48 y) ((aa (Ow 3 1 (Sk y.2.2.2.2.2.2.2.2.2 0 1 1) 1 [I 1]) (Ow 3 1 (Sk y.2.2.2.2.2.2.2.2.1 0 1 1) 1 [I 1]))))))) = (aa (Ow 3 1 (Sk y.1 0 3 3) 3 [I 0, I 1, I 2]) (aa (Ow 149 3 (Sk y.2.1 0 3 3) 3 [I 0, I 0, I 1000, I 1, I 0, I 1000, I 2, I 0, I 1000]) (aa (Ow 151 8 (Sk y.2.2.1 y.2.2.2.1 2 y.2.2.2.2.1) 2 [I 10, I 0, I x.bg, I x.sm, Ff, I 2, I 60000, Sk y.2.2.2.2.2.2.2.2.1 0 1 1, I 11, I 0, I x.bg, I x.sm, Tt, I 2, I 60000, Sk y.2.2.2.2.2.2.2.2.2 0 1 1]) (aa (qq48 y) ((aa (Ow 3 1 (Sk y.2.2.2.2.2.2.2.2.2 0 1 1) 1 [I 1]) (aa (Ow 3 1 (Sk y.2.2.2.2.2.2.2.2.1 0 1 1) 1 [I 1]) (emp)))))))) by rw [cR])) (ah _)
theorem GT (x : Cf) (hn : x.n = 2) : ∃ (Y : Type) (V : Y -> Value) (H : Y -> ab), (FSpec prog 18 #[.agg [I x.L, I x.S, I x.G].toArray] emp (fun _ : Y => True) V H) /\ ∀ y, FSpec prog 17 #[V y] (H y) (fun r : NC × Nat => NCH r.1 /\ r.1.sm = x.sm) (fun r => .tuple #[Pt r.2 0, I 0]) (fun r => jy r.1 r.2 1 1 0 0 oM) :=
 ⟨_, _, _, Ga x hn, fun y => (tZ 2 (by decide) x ⟨y.2.2.1, y.2.2.2.1, y.2.2.2.2.1, fun j => if j = 0 then y.2.2.2.2.2.2.2.2.1 else y.2.2.2.2.2.2.2.2.2, fun _ => 0, fun _ => 1⟩ ⟨y.1, 0, 3, y.2.1, 0, 3, y.2.2.2.2.2.1, y.2.2.2.2.2.2.1, y.2.2.2.2.2.2.2.1, Tt⟩).conseq (Ent.trans (Ip x y) (ah _)) fun r hr => ⟨r, hr, rfl, ah _⟩⟩
abbrev _root_.Go.qq52 (a : Nat × Nat × Nat × Nat × Nat × Nat × Nat × Nat × Nat × Nat × Nat) := cE 3 a.2.2.2.2.2.1 a.2.2.2.2.2.2.1 a.2.2.2.2.2.2.2.1
theorem Io (x : Cf) (y : Nat × Nat × Nat × Nat × Nat × Nat × Nat × Nat × Nat × Nat × Nat) : Ent (aa (am y.1 [I 0, I 1, I 2] 3) (aa (am y.2.1 [I 0, I 0, I 1000, I 1, I 0, I 1000, I 2, I 0, I 1000] 149) (aa (am y.2.2.2.2.2.2.2.2.1 [I 1] 3) (aa (am y.2.2.2.2.2.2.2.2.2.1 [I 1] 3) (aa (am y.2.2.2.2.2.2.2.2.2.2 [I 1] 3) (aa (Ow 151 8 (Sk y.2.2.1 y.2.2.2.1 3 y.2.2.2.2.1) 3 [I 10, I 0, I x.bg, I x.sm, Ff, I 2, I 60000, Sk y.2.2.2.2.2.2.2.2.1 0 1 1, I 11, I 0, I x.bg, I x.sm, Tt, I 2, I 60000, Sk y.2.2.2.2.2.2.2.2.2.1 0 1 1, I 12, I 0, I x.bg, I x.sm, Ff, I 2, I 60000, Sk y.2.2.2.2.2.2.2.2.2.2 0 1 1]) (qq52 y))))))) (CfO 3 x ⟨y.2.2.1, y.2.2.2.1, y.2.2.2.2.1, fun j => if j = 0 then y.2.2.2.2.2.2.2.2.1 else if j = 1 then y.2.2.2.2.2.2.2.2.2.1 else y.2.2.2.2.2.2.2.2.2.2, fun _ => 0, fun _ => 1⟩ ⟨y.1, 0, 3, y.2.1, 0, 3, y.2.2.2.2.2.1, y.2.2.2.2.2.2.1, y.2.2.2.2.2.2.2.1, Tt⟩) := by
 refine Ent.trans (cK (Ow.lit (e := 3) (m := 1) (len := 3) rfl (by decide)) (cK (Ow.lit (e := 149) (m := 3) (len := 3) rfl (by decide)) (cK (Ow.lit (e := 3) (m := 1) (len := 1) rfl (by decide)) (cK (Ow.lit (e := 3) (m := 1) (len := 1) rfl (by decide)) (cK (Ow.lit (e := 3) (m := 1) (len := 1) rfl (by decide)) (ah _))))))<|Ent.trans (Ent.take (Q := (aa (Ow 3 1 (Sk y.1 0 3 3) 3 [I 0, I 1, I 2]) (aa (Ow 149 3 (Sk y.2.1 0 3 3) 3 [I 0, I 0, I 1000, I 1, I 0, I 1000, I 2, I 0, I 1000]) (aa (Ow 151 8 (Sk y.2.2.1 y.2.2.2.1 3 y.2.2.2.2.1) 3 [I 10, I 0, I x.bg, I x.sm, Ff, I 2, I 60000, Sk y.2.2.2.2.2.2.2.2.1 0 1 1, I 11, I 0, I x.bg, I x.sm, Tt, I 2, I 60000, Sk y.2.2.2.2.2.2.2.2.2.1 0 1 1, I 12, I 0, I x.bg, I x.sm, Ff, I 2, I 60000, Sk y.2.2.2.2.2.2.2.2.2.2 0 1 1]) (aa (qq52 y) ((aa (Ow 3 1 (Sk y.2.2.2.2.2.2.2.2.2.2 0 1 1) 1 [I 1]) (aa (Ow 3 1 (Sk y.2.2.2.2.2.2.2.2.2.1 0 1 1) 1 [I 1]) (Ow 3 1 (Sk y.2.2.2.2.2.2.2.2.1 0 1 1) 1 [I 1])))))))))) ?_
 exact Ent.trans (Ent.of (show (aa (Ow 3 1 (Sk y.1 0 3 3) 3 [I 0, I 1, I 2]) (aa (Ow 149 3 (Sk y.2.1 0 3 3) 3 [I 0, I 0, I 1000, I 1, I 0, I 1000, I 2, I 0, I 1000]) (aa (Ow 151 8 (Sk y.2.2.1 y.2.2.2.1 3 y.2.2.2.2.1) 3 [I 10, I 0, I x.bg, I x.sm, Ff, I 2, I 60000, Sk y.2.2.2.2.2.2.2.2.1 0 1 1, I 11, I 0, I x.bg, I x.sm, Tt, I 2, I 60000, Sk y.2.2.2.2.2.2.2.2.2.1 0 1 1, I 12, I 0, I x.bg, I x.sm, Ff, I 2, I 60000, Sk y.2.2.2.2.2.2.2.2.2.2 0 1 1]) (aa (qq52 y) ((aa (Ow 3 1 (Sk y.2.2.2.2.2.2.2.2.2.2 0 1 1) 1 [I 1]) (aa (Ow 3 1 (Sk y.2.2.2.2.2.2.2.2.2.1 0 1 1) 1 [I 1]) (Ow 3 1 (Sk y.2.2.2.2.2.2.2.2.1 0 1 1) 1 [I 1])))))))) = (aa (Ow 3 1 (Sk y.1 0 3 3) 3 [I 0, I 1, I 2]) (aa (Ow 149 3 (Sk y.2.1 0 3 3) 3 [I 0, I 0, I 1000, I 1, I 0, I 1000, I 2, I 0, I 1000]) (aa (Ow 151 8 (Sk y.2.2.1 y.2.2.2.1 3 y.2.2.2.2.1) 3 [I 10, I 0, I x.bg, I x.sm, Ff, I 2, I 60000, Sk y.2.2.2.2.2.2.2.2.1 0 1 1, I 11, I 0, I x.bg, I x.sm, Tt, I 2, I 60000, Sk y.2.2.2.2.2.2.2.2.2.1 0 1 1, I 12, I 0, I x.bg, I x.sm, Ff, I 2, I 60000, Sk y.2.2.2.2.2.2.2.2.2.2 0 1 1]) (aa (qq52 y) ((aa (Ow 3 1 (Sk y.2.2.2.2.2.2.2.2.2.2 0 1 1) 1 [I 1]) (aa (Ow 3 1 (Sk y.2.2.2.2.2.2.2.2.2.1 0 1 1) 1 [I 1]) (aa (Ow 3 1 (Sk y.2.2.2.2.2.2.2.2.1 0 1 1) 1 [I 1]) (emp))))))))) by rw [cR])) (ah _)
theorem GS (x : Cf) (hn : x.n = 3) : ∃ (Y : Type) (V : Y -> Value) (H : Y -> ab), (FSpec prog 18 #[.agg [I x.L, I x.S, I x.G].toArray] emp (fun _ : Y => True) V H) /\ ∀ y, FSpec prog 17 #[V y] (H y) (fun r : NC × Nat => NCH r.1 /\ r.1.sm = x.sm) (fun r => .tuple #[Pt r.2 0, I 0]) (fun r => jy r.1 r.2 1 1 0 0 oM) :=
 ⟨_, _, _, F9 x hn, fun y => (tZ 3 (by decide) x ⟨y.2.2.1, y.2.2.2.1, y.2.2.2.2.1, fun j => if j = 0 then y.2.2.2.2.2.2.2.2.1 else if j = 1 then y.2.2.2.2.2.2.2.2.2.1 else y.2.2.2.2.2.2.2.2.2.2, fun _ => 0, fun _ => 1⟩ ⟨y.1, 0, 3, y.2.1, 0, 3, y.2.2.2.2.2.1, y.2.2.2.2.2.2.1, y.2.2.2.2.2.2.2.1, Tt⟩).conseq (Ent.trans (Io x y) (ah _)) fun r hr => ⟨r, hr, rfl, ah _⟩⟩
theorem AP : uc := fun x => by
 have hn := x.hn
 have h := x.tm.1
 have h2 : 0 <= ((x.L.tmod 3) + 3).tmod 3 := Int.tmod_nonneg _ (by omega)
 rcases (show x.n = 1 \/ x.n = 2 \/ x.n = 3 by omega) with e | e | e
 ·exact GU x e
 ·exact GT x e
 ·exact GS x e
end Sp
end
end Go.Proofs.YtpkcniedaabpoaaGreat
