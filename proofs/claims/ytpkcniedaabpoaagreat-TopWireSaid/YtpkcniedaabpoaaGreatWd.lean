/- The law TopWire of the package pitottop holds for every input: a message that becomes a datagram, a packet, its parts, and frames, comes out of these as it was; and a message goes through a whole network. No condition. -/
import Derived.Test.YtpkcniedaabpoaaGreatM8
import Derived.Test.YtpkcniedaabpoaaGreatN5
import Derived.Test.YtpkcniedaabpoaaGreatRows
import Derived.Test.YtpkcniedaabpoaaGreatM1
set_option linter.unusedVariables false
set_option linter.unusedSimpArgs false
namespace Go.Proofs.YtpkcniedaabpoaaGreat
open Go.SLA
set_option maxRecDepth 100000
attribute [local irreducible] J L K QL Rg FSpec OpV OpX Rd Back
structure Wr where
  vl : Int
  h : Int
  pa : Int
  u : Int
  id : Int
  sm : Int
def encWr (x : Wr) : List Value := [.int .i64 x.vl, .int .i64 x.h, .int .i64 x.pa, .int .i64 x.u, .int .i64 x.id, .int .i64 x.sm]
def okWr (x : Wr) : Prop := (Lit.int .i64 x.vl).wf = true ∧ (Lit.int .i64 x.h).wf = true ∧ (Lit.int .i64 x.pa).wf = true ∧ (Lit.int .i64 x.u).wf = true ∧ (Lit.int .i64 x.id).wf = true ∧ (Lit.int .i64 x.sm).wf = true
abbrev ksWr : List CK := [.int .i64, .int .i64, .int .i64, .int .i64, .int .i64, .int .i64]
theorem decWr (cs : List Value) (h : Kinds ksWr cs) : ∃ x, cs = encWr x ∧ okWr x := by
  obtain ⟨hl, hk⟩ := h
  obtain ⟨v0, g0, x0, rfl, w0⟩ := hk 0 _ rfl
  obtain ⟨v1, g1, x1, rfl, w1⟩ := hk 1 _ rfl
  obtain ⟨v2, g2, x2, rfl, w2⟩ := hk 2 _ rfl
  obtain ⟨v3, g3, x3, rfl, w3⟩ := hk 3 _ rfl
  obtain ⟨v4, g4, x4, rfl, w4⟩ := hk 4 _ rfl
  obtain ⟨v5, g5, x5, rfl, w5⟩ := hk 5 _ rfl
  match cs, hl with
  | [c0, c1, c2, c3, c4, c5], _ =>
    simp only [List.getElem?_cons_zero, List.getElem?_cons_succ, Option.some.injEq] at g0 g1 g2 g3 g4 g5
    exact ⟨⟨x0, x1, x2, x3, x4, x5⟩, by simp only [encWr, *], ⟨w0, w1, w2, w3, w4, w5⟩⟩
theorem TopWire_emp (w : Wr) (d : ByteArray) (hw : okWr w) : FSpec Tryz.prog 3 #[.string d, .agg (encWr w).toArray] emp (fun _ : Unit => True) (fun _ => .bool true) (fun _ => emp) := by
  obtain ⟨vl, h, pa, u, id, sm⟩ := w
  obtain ⟨w1, w2, w3, w4, w5, w6⟩ := hw
  have hA : FSpec Tryz.prog 7 #[] emp (fun _ : Unit => True) (fun _ => .bool true) (fun _ => emp) := i561
  show FSpec Tryz.prog 3 #[.string d, .agg [.int .i64 vl, .int .i64 h, .int .i64 pa, .int .i64 u, .int .i64 id, .int .i64 sm].toArray] emp _ _ _
  by_cases h1 : (prtA h pa).2 = 0
  · by_cases h2 : (grp vl).2 = 0
    · by_cases h3 : d.size ≤ 8192
      · have hl := lnk_of h2
        have hb1 := (prt_adr h pa).1.2
        have hb2 := (grp_adr vl).1.2
        obtain ⟨m, q, e1, e2, hm, hq, he⟩ := prtA_in h1
        obtain ⟨v, e3, hv1, hv2, he2⟩ := grp_in h2
        have hs : (10 < 256 ∧ m / 256 % 256 < 256 ∧ m % 256 < 256 ∧ q < 256) ∧ (224 < 256 ∧ 224 < 256 ∧ v / 256 % 256 < 256 ∧ v % 256 < 256) := by omega
        have hh : 0 ≤ h ∧ h ≤ 4095 := by omega
        by_cases h4 : (encU (wEnd 10 (m / 256 % 256) (m % 256) q 224 224 (v / 256 % 256) (v % 256) u) d).2 = 0
        · by_cases h5 : codeS (wPck 10 (m / 256 % 256) (m % 256) q 224 224 (v / 256 % 256) (v % 256) id (encU (wEnd 10 (m / 256 % 256) (m % 256) q 224 224 (v / 256 % 256) (v % 256) u) d).1) sm = 0
          · by_cases h6 : id < 0
            · exact TW_f vl h pa u id sm d hA 10 (m / 256 % 256) (m % 256) q 224 224 (v / 256 % 256) (v % 256) he he2 h3 hs w4 h4 h5 h6
            · by_cases h7 : 65535 < id
              · exact TW_g vl h pa u id sm d hA 10 (m / 256 % 256) (m % 256) q 224 224 (v / 256 % 256) (v % 256) he he2 h3 hs w4 h4 h5 h6 h7
              · obtain ⟨hp, _, hen⟩ := encU_ok (fun n => n h4)
                rw [hen] at h5
                exact TW_ok vl h pa u id sm d hA 10 (m / 256 % 256) (m % 256) q 224 224 (v / 256 % 256) (v % 256) he he2 h3 hs w4 ⟨by omega, by omega⟩ hp _ rfl h5 hl hh
          · exact TW_e vl h pa u id sm d hA 10 (m / 256 % 256) (m % 256) q 224 224 (v / 256 % 256) (v % 256) he he2 h3 hs w4 h4 h5
        · exact TW_d vl h pa u id sm d hA 10 (m / 256 % 256) (m % 256) q 224 224 (v / 256 % 256) (v % 256) he he2 h3 hs w4 h4
      · exact TW_c vl h pa u id sm d hA h1 h2 (by omega)
    · exact TW_b vl h pa u id sm d hA h1 h2
  · exact TW_a vl h pa u id sm d hA h1
theorem TopWire_law (W : World) (w : Wr) (d : ByteArray) (hw : okWr w) : FSpec Tryz.prog 3 #[.string d, .agg (encWr w).toArray] (old W) (fun _ : Unit => True) (fun _ => .bool true) (fun _ => old W) := by
  have := (TopWire_emp w d hw).frame (old W)
  simpa only [emp_sep] using this
def wr0 : Wr := ⟨0, 0, 0, 0, 0, 0⟩
end Go.Proofs.YtpkcniedaabpoaaGreat
namespace Go.Proofs.YtpkcniedaabpoaaGreat.topWire
open Go.ChangeShapes Go.WideShapes Go.ChangeAt Go.RowKit Go.SLA
open Go.ChangeMaps (open_string shut_string)
theorem own : ownKnob Tryz.prog.godebug = none := by kernel_rfl
theorem laidOut : laidOutB Tryz.prog = true := by kernel_rfl
set_option maxRecDepth 100000 in
theorem lifted (os : Os) (started : os.Started) (H : Type) (enc : TypeId × Value → H) :
    ReturnsInHanded {} Tryz.checked os 3 .any (Rows.topWireSpec.pre6 enc Tryz.prog Tryz.f3 Rows.topWireRow.domain false) (Rows.topWireSpec.post enc Tryz.prog Tryz.f3 false true false false) := by
  refine returnsInHanded_of_change_sized (C := Tryz.checked) own started (by kernel_rfl) Tryz.func3
    (ChangeSpec.witness6 (enc := enc) (C := Tryz.checked) false ⟨#[], #[.string ByteArray.empty, .agg (encWr wr0).toArray], []⟩ 8 (by kernel_rfl) (by kernel_rfl) (by kernel_rfl) (by kernel_rfl)) ?_
  intro W base args ds gs before hval0 hW hcnd hsz0 _
  have hsz : (DataW.weightsEach Tryz.prog (Tryz.f3.params.toList ++ Rows.topWireSpec.plain.varTypes Tryz.prog) (ds ++ gs)).all (· ≤ reachBytes) = true := hsz0
  have hval : ∀ (j : Nat) t v, Tryz.f3.params[j]? = some t → args[j]? = some v → Value.okWide Tryz.prog W .any base t v := hval0
  have hW' := hW
  obtain ⟨p, q, hA0, hV, rfl, hfz, hnd⟩ := hW
  have hA : DataW.TrodAll enc Tryz.prog W 0 (fun _ => true) true Tryz.f3.params.toList args.toList ds p := hA0
  rw [Tryz.params3] at hA hval hsz
  obtain ⟨v0, vs0, d0, ds0, p0, q0, hargs, rfl, rfl, h0, r0⟩ := trodAll_cons hA
  obtain ⟨v1, vs1, d1, ds1, p1, q1, rfl, rfl, rfl, h1, r1⟩ := trodAll_cons r0
  obtain ⟨rfl, rfl, rfl⟩ := trodAll_nil r1
  obtain rfl : args = #[v0, v1] := by cases args; simp_all
  obtain ⟨rfl, rfl⟩ := trodVars_none hV
  have k0 := h0
  have lt0 : ∀ x ∈ p0, x.block < W.heap.size := by obtain ⟨m, hm⟩ := k0; exact DataW.trod_lt m _ _ _ hm
  obtain ⟨a0, rfl, rfl, rfl, y0⟩ := open_string Tryz.underlying9 (hval 0 9 v0 rfl rfl) h0
  have z0 := sized_string hsz (j := 0) (t := 9) rfl rfl
  rw [Array.length_toList] at z0
  have k1 := h1
  have lt1 : ∀ x ∈ p1, x.block < W.heap.size := by obtain ⟨m, hm⟩ := k1; exact DataW.trod_lt m _ _ _ hm
  obtain ⟨l1, rfl, g1⟩ := open_flat (D := 5) (ks := ksWr) (by kernel_rfl) (by kernel_rfl) (hval 1 23 v1 rfl rfl) h1
  obtain ⟨x1, rfl, ok1⟩ := decWr l1 g1
  clear hA0 hval0 hsz0 hsz
  refine (FSpec.law (TopWire_law W x1 a0 ok1)).mono fun e W' ⟨he, bel⟩ => ?_
  subst he
  exact ⟨_, rfl, _, _, _, [], _, [], hW', trodAll_mk1 (shut_bool Tryz.underlying4 _), (trodAll_cons_mk (Below.trod laidOut (by kernel_rfl) (of_decide_eq_true (by kernel_rfl)) k0 bel lt0) (trodAll_cons_mk (Below.trod laidOut (by kernel_rfl) (of_decide_eq_true (by kernel_rfl)) k1 bel lt1) trodAll_mk0)), rfl, bel.frame _, fun h => by cases h⟩
theorem over : Rows.topWireRow.holds Tryz.pinned (OpenSpec.ofChange Rows.topWireSpec) :=
  OpenClaim.holds_of_wide 3 Tryz.f3 rfl rfl rfl rfl rfl rfl rfl ⟨rfl, rfl, rfl, rfl, rfl⟩ rfl rfl rfl rfl rfl (by kernel_rfl) Tryz.func3 (by kernel_rfl)
    (of_decide_eq_true (by kernel_rfl)) (by unfold Func.isWrapper; first | (rw [if_pos (by decide +kernel)]; kernel_rfl) | (rw [if_neg (by decide +kernel)]; exact ⟨rfl, rfl⟩))
    (fun os started H enc _ => lifted os started H enc)
end Go.Proofs.YtpkcniedaabpoaaGreat.topWire
namespace Go.Proofs.YtpkcniedaabpoaaGreat
theorem topWire_holds : Rows.TopWireSaid := topWire.over
#print axioms topWire_holds
end Go.Proofs.YtpkcniedaabpoaaGreat
namespace Go.Proofs.YtpkcniedaabpoaaGreat
open Go.SLA
end Go.Proofs.YtpkcniedaabpoaaGreat
