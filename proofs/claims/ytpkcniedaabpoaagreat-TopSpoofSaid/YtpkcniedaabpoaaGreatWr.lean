/- The law TopSpoof of the package pitottop holds for every input: an end system that lies about whose frames it sends turns nothing. No condition. -/
import Derived.Test.YtpkcniedaabpoaaGreatRows
import Derived.Test.YtpkcniedaabpoaaGreatM12
set_option linter.unusedVariables false
set_option linter.unusedSimpArgs false
namespace Go.Proofs.YtpkcniedaabpoaaGreat
open Go.SLA
set_option maxRecDepth 100000
attribute [local irreducible] J L K QL Rg FSpec OpV OpX Rd bd
structure Szs where
 L : Int
 S : Int
 G : Int
def encSzs (x : Szs) : List Value := [I x.L, I x.S, I x.G]
def okSzs (x : Szs) : Prop := (Lit.int .i64 x.L).wf = true /\ (Lit.int .i64 x.S).wf = true /\ (Lit.int .i64 x.G).wf = true
abbrev ksSzs : List CK := [.int .i64, .int .i64, .int .i64]
theorem decSzs (cs : List Value) (h : Kinds ksSzs cs) : ∃ x, cs = encSzs x /\ okSzs x := by
 obtain ⟨hl, hk⟩ := h
 obtain ⟨v0, g0, x0, rfl, w0⟩ := hk 0 _ rfl
 obtain ⟨v1, g1, x1, rfl, w1⟩ := hk 1 _ rfl
 obtain ⟨v2, g2, x2, rfl, w2⟩ := hk 2 _ rfl
 match cs, hl with
 | [c0, c1, c2], _ =>
  simp only [List.getElem?_cons_zero, List.getElem?_cons_succ, Option.some.injEq] at g0 g1 g2
  exact ⟨⟨x0, x1, x2⟩, by simp only [encSzs, *], ⟨w0, w1, w2⟩⟩
theorem decStr (cs : List Value) (h : Kinds [CK.str] cs) : ∃ m : ByteArray, cs = [Value.string m] /\ True := by
 obtain ⟨hl, hk⟩ := h
 obtain ⟨v, g, m, rfl, _⟩ := hk 0 _ rfl
 match cs, hl with
 | [c], _ =>
  simp only [List.getElem?_cons_zero, Option.some.injEq] at g
  exact ⟨m, by rw [g], trivial⟩
def szs0 : Szs := ⟨0, 0, 0⟩
open Sp in
theorem TopSpoof_law (W : World) (x : Szs) (A Ae : Option Addr) (l le cp ce : Nat) (ls : List ByteArray) (es : List Lf) (h1 : pE W (fun m : ByteArray => [Value.string m]) 1 A l ls) (hl : l <= cp) (hc : cp <= maxLen) (h2 : pE W encLf 5 Ae le es) (hle : le <= ce) (hce : ce <= maxLen) (hes : ∀ e ∈ es, okLf e) : FSpec Tryz.prog 4 #[.agg (encSzs x).toArray, .slice A l cp, .slice Ae le ce] (old W) (fun _ : Unit => True) (fun _ => Tt) (fun _ => old W) :=
 qD AP W x.L x.S x.G A Ae cp ce l le ls es h1 hl hc h2 hle hce hes
end Go.Proofs.YtpkcniedaabpoaaGreat
namespace Go.Proofs.YtpkcniedaabpoaaGreat.topSpoof
open Go.ChangeShapes Go.WideShapes Go.ChangeAt Go.RowKit Go.SLA
open Go.ChangeMaps (open_string shut_string)
theorem own : ownKnob Tryz.prog.godebug = none := by kernel_rfl
theorem laidOut : laidOutB Tryz.prog = true := by kernel_rfl
set_option maxRecDepth 100000 in
theorem lifted (os : Os) (started : os.Started) (H : Type) (enc : TypeId × Value -> H) :
  ReturnsInHanded {} Tryz.checked os 4 .any (Rows.topSpoofSpec.pre6 enc Tryz.prog Tryz.f4 Rows.topSpoofRow.domain false) (Rows.topSpoofSpec.post enc Tryz.prog Tryz.f4 false true false false) := by
 refine returnsInHanded_of_change_sized (C := Tryz.checked) own started (by kernel_rfl) Tryz.func4
  (ChangeSpec.witness6 (enc := enc) (C := Tryz.checked) false ⟨#[], #[.agg (encSzs szs0).toArray, Ns, Ns], []⟩ 8 (by kernel_rfl) (by kernel_rfl) (by kernel_rfl) (by kernel_rfl)) ?_
 intro W base args ds gs before hval0 hW hcnd hsz0 _
 have hsz : (DataW.weightsEach Tryz.prog (Tryz.f4.params.toList ++ Rows.topSpoofSpec.plain.varTypes Tryz.prog) (ds ++ gs)).all (· <= reachBytes) = true := hsz0
 have hval : ∀ (j : Nat) t v, Tryz.f4.params[j]? = some t -> args[j]? = some v -> Value.okWide Tryz.prog W .any base t v := hval0
 have hW' := hW
 obtain ⟨p, q, hA0, hV, rfl, hfz, hnd⟩ := hW
 have hA : DataW.TrodAll enc Tryz.prog W 0 (fun _ => true) true Tryz.f4.params.toList args.toList ds p := hA0
 rw [Tryz.params4] at hA hval hsz
 obtain ⟨v0, vs0, d0, ds0, p0, q0, hargs, rfl, rfl, h0, r0⟩ := trodAll_cons hA
 obtain ⟨v1, vs1, d1, ds1, p1, q1, rfl, rfl, rfl, h1, r1⟩ := trodAll_cons r0
 obtain ⟨v2, vs2, d2, ds2, p2, q2, rfl, rfl, rfl, h2, r2⟩ := trodAll_cons r1
 obtain ⟨rfl, rfl, rfl⟩ := trodAll_nil r2
 obtain rfl : args = #[v0, v1, v2] := by cases args; simp_all
 obtain ⟨rfl, rfl⟩ := trodVars_none hV
 have k0 := h0
 have lt0 : ∀ x ∈ p0, x.block < W.heap.size := by obtain ⟨m, hm⟩ := k0; exact DataW.trod_lt m _ _ _ hm
 obtain ⟨l0, rfl, g0⟩ := u6 (D := 5) (ks := ksSzs) (by kernel_rfl) (by kernel_rfl) (hval 0 57 v0 rfl rfl) h0
 obtain ⟨x0, rfl, ok0⟩ := decSzs l0 g0
 have k1 := h1
 have lt1 : ∀ x ∈ p1, x.block < W.heap.size := by obtain ⟨m, hm⟩ := k1; exact DataW.trod_lt m _ _ _ hm
 obtain ⟨A1, len1, cap1, xs1, rfl, hl1, hc1, harr1, hok1⟩ := rQ (D := 1) (ks := [CK.str]) (en := (fun m : ByteArray => [Value.string m])) (ok := (fun _ : ByteArray => True)) Tryz.underlying58 (by kernel_rfl) (by kernel_rfl) (by decide) (fun cs h => decStr cs h) (hval 1 58 v1 rfl rfl) h1
 have k2 := h2
 have lt2 : ∀ x ∈ p2, x.block < W.heap.size := by obtain ⟨m, hm⟩ := k2; exact DataW.trod_lt m _ _ _ hm
 obtain ⟨A2, len2, cap2, xs2, rfl, hl2, hc2, harr2, hok2⟩ := rQ (D := 5) (ks := Sp.ksLf) (en := Sp.encLf) (ok := Sp.okLf) Tryz.underlying59 (by kernel_rfl) (by kernel_rfl) (by decide) (fun cs h => Sp.decLf cs h) (hval 2 59 v2 rfl rfl) h2
 clear hA0 hval0 hsz0 hsz
 refine (wj (TopSpoof_law W x0 A1 A2 len1 len2 cap1 cap2 xs1 xs2 harr1 hl1 hc1 harr2 hl2 hc2 hok2)).mono fun e W' ⟨he, bel⟩ => ?_
 subst he
 exact ⟨_, rfl, _, _, _, [], _, [], hW', trodAll_mk1 (shut_bool Tryz.underlying4 _), (trodAll_cons_mk (Below.trod laidOut (by kernel_rfl) (of_decide_eq_true (by kernel_rfl)) k0 bel lt0) (trodAll_cons_mk (Below.trod laidOut (by kernel_rfl) (of_decide_eq_true (by kernel_rfl)) k1 bel lt1) (trodAll_cons_mk (Below.trod laidOut (by kernel_rfl) (of_decide_eq_true (by kernel_rfl)) k2 bel lt2) trodAll_mk0))), rfl, bel.frame _, fun h => by cases h⟩
theorem over : Rows.topSpoofRow.holds Tryz.pinned (OpenSpec.ofChange Rows.topSpoofSpec) :=
 OpenClaim.holds_of_wide 4 Tryz.f4 rfl rfl rfl rfl rfl rfl rfl ⟨rfl, rfl, rfl, rfl, rfl⟩ rfl rfl rfl rfl rfl (by kernel_rfl) Tryz.func4 (by kernel_rfl)
  (of_decide_eq_true (by kernel_rfl)) (by unfold Func.isWrapper; (rw [if_neg (by decide +kernel)]; exact ⟨rfl, rfl⟩))
  (fun os started H enc _ => lifted os started H enc)
end Go.Proofs.YtpkcniedaabpoaaGreat.topSpoof
namespace Go.Proofs.YtpkcniedaabpoaaGreat
theorem topSpoof_holds : Rows.TopSpoofSaid := topSpoof.over
#print axioms topSpoof_holds
end Go.Proofs.YtpkcniedaabpoaaGreat
namespace Go.Proofs.YtpkcniedaabpoaaGreat
open Go.SLA
end Go.Proofs.YtpkcniedaabpoaaGreat
