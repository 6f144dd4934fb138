/- AddrTexts: for every six bytes and every text the law answers true: which text an address is, and which texts are addresses, is the document's answer. -/
import Derived.Test.YtkkoepnljofhpaaDoorAu
import Derived.Test.YtkkoepnljofhpaaDoorTie
import Derived.Test.YtkkoepnljofhpaaDoorCards
import Derived.Test.YtkkoepnljofhpaaDoorChecked
import Derived.ProofKit
import Derived.LaidMore
import Derived.OpenShut
import Derived.Stop.Joined
import Derived.SevenTiedAt
import Derived.Test.YtkkoepnljofhpaaDoorH
namespace Go.Proofs.YtkkoepnljofhpaaDoor
open Go.SLA
set_option maxRecDepth 100000
set_option linter.unusedVariables false
set_option linter.unusedSimpArgs false
attribute [local irreducible] J L K QL Rg FSpec OpV OpX Rd Back

open Go.ChangeShapes Go.WideShapes Go.ChangeAt Go.WideMaps Go.WideElems Go.RowKit
theorem trod_if {H : Type} {enc : TypeId × Value → H} {P : Program} {w : World} {base : Nat} {spare : Nat → Bool} {held : Bool} {fuel : Nat} {t : TypeId} {ms : Array (String × TypeId)} {cs : List Value} {nm : String} {d : DataW H} {p : List MemPlace} (ht : P.underlying t = some (.interface ms)) (h : DataW.trod enc P w base spare held fuel t cs = some (.iface nm d, p)) : ∃ u v, cs = [.iface u v] := by
  cases fuel with
  | zero => cases h
  | succ n =>
    cases cs with
    | nil => simp [DataW.trod, ht] at h
    | cons v r =>
      cases r with
      | cons a b => simp [DataW.trod, ht] at h
      | nil => cases v <;> simp [DataW.trod, ht] at h ⊢
theorem gE1 : Tryd.prog.globalNamed "strconv.ErrSyntax" = some 1 := by kernel_rfl
theorem gE2 : Tryd.prog.globalNamed "strconv.ErrRange" = some 2 := by kernel_rfl
theorem tE1 : (Tryd.prog.globals[1]?).map (·.type) = some 99 := by kernel_rfl
theorem tE2 : (Tryd.prog.globals[2]?).map (·.type) = some 99 := by kernel_rfl
set_option maxRecDepth 100000 in
theorem of_laidT {W : World} (h : laidMetH Tryd.prog Rows.addrTextsRow.laid W) : W.cell? (ad 7 15) = some (.int .u8 4) ∧ ErrsOk W := by
  rw [MakeChecks.laidMetH_plain _ _ _ (by kernel_rfl)] at h
  obtain ⟨ps, ⟨g0, t0, cs0, f0, p0, q0, hg0, ht0, hv0, hd0, ⟨g1, t1, cs1, f1, p1, q1, hg1, ht1, hv1, hd1, ⟨g2, t2, cs2, f2, p2, q2, hg2, ht2, hv2, hd2, ⟨g3, t3, cs3, f3, p3, q3, hg3, ht3, hv3, hd3, ⟨g4, t4, cs4, f4, p4, q4, hg4, ht4, hv4, hd4, ⟨g5, t5, cs5, f5, p5, q5, hg5, ht5, hv5, hd5, _⟩, _⟩, _⟩, _⟩, _⟩, _⟩, _, _⟩ := h
  refine ⟨?_, ?_, ?_⟩
  · obtain rfl := Option.some.inj (g64.symm.trans hg1)
    obtain rfl := Option.some.inj (t64.symm.trans ht1)
    obtain ⟨xs, m1, rfl, hx1, hlen, hn3, hel⟩ := DataW.trod_array Tryd.underlying171 hd1
    have c5 : Tryd.prog.cellsOf 5 = 1 := by kernel_rfl
    have h15 := hel 15 (by decide)
    rw [c5] at h15
    simp only [Prod.mk.injEq] at hx1
    have hx := hx1.1
    have h16 : xs[15]?.map (·.1) = some (.lit (.int .u8 4)) := by
      have e := congrArg (fun d : DataW _ => match d with | .agg l => l[15]? | _ => none) hx
      simpa [Rows.laid_math_bits_deBruijn64tab] using e.symm
    cases hxs : xs[15]? with
    | none => rw [hxs] at h16; cases h16
    | some y =>
      rw [hxs] at h15 h16
      simp only [Option.map_some, Option.some.injEq] at h16
      obtain ⟨k, e1, e2, _⟩ := DataW.trod_int Tryd.underlying5 (x := y) h15
      have hk : k = 4 := by rw [e2] at h16; simpa using h16
      subst hk
      have hc := World.var?_cell hg1 hv1 15
      have hc2 : cs1[15]? = some (.int .u8 4) := by
        have := congrArg (fun l : List Value => l[0]?) e1
        simpa [List.getElem?_take, List.getElem?_drop] using this
      rw [hc2] at hc
      exact hc
  · obtain rfl := Option.some.inj (gE1.symm.trans hg5)
    obtain rfl := Option.some.inj (tE1.symm.trans ht5)
    obtain ⟨u, v, e⟩ := trod_if Tryd.underlying99 hd5
    have hc := World.var?_cell hg5 hv5 0
    have hc2 : cs5[0]? = some (.iface u v) := by
      have := congrArg (fun l : List Value => l[0]?) e
      simpa using this
    rw [hc2] at hc
    exact ⟨_, hc, .inr ⟨u, v, rfl⟩⟩
  · obtain rfl := Option.some.inj (gE2.symm.trans hg4)
    obtain rfl := Option.some.inj (tE2.symm.trans ht4)
    obtain ⟨u, v, e⟩ := trod_if Tryd.underlying99 hd4
    have hc := World.var?_cell hg4 hv4 0
    have hc2 : cs4[0]? = some (.iface u v) := by
      have := congrArg (fun l : List Value => l[0]?) e
      simpa using this
    rw [hc2] at hc
    exact ⟨_, hc, .inr ⟨u, v, rfl⟩⟩


def firstVals : Array Value := match (Pinned.utf8First : DataW Unit) with
  | .agg l => (l.map fun d => match d with | .lit (.int k n) => Value.int k n | _ => .int .u8 0).toArray
  | _ => #[]
noncomputable def doorW (os : Os) : World := { World.doorLaid Tryd.prog 400 os with heap := (World.doorLaid Tryd.prog 400 os).heap.setIfInBounds 4 (.cells firstVals 164 (0, 0)) }

end Go.Proofs.YtkkoepnljofhpaaDoor
namespace Go.Proofs.YtkkoepnljofhpaaDoor.addrTexts
open Go.ChangeShapes Go.WideShapes Go.ChangeAt Go.RowKit Go.SLA
open Go.ChangeMaps (open_string shut_string)
set_option linter.unusedVariables false
theorem own : ownKnob Tryd.prog.godebug = none := by kernel_rfl
theorem laidOut : laidOutB Tryd.prog = true := by kernel_rfl
abbrev laidL := Rows.addrTextsRow.laid
theorem door_met (os : Os) (args : Array Value) : laidMetH Tryd.prog laidL ((doorW os).forCall (fun _ _ => 0) ⟨#[], args, []⟩).memory :=
  laidMetH_of_parts3 (fuel := 8) (laidMet_of_run' 8 (by kernel_rfl) (by kernel_rfl)) (by kernel_rfl) (by kernel_rfl)
set_option maxRecDepth 100000 in
theorem lifted (os : Os) (started : os.Started) (H : Type) (enc : TypeId × Value → H) :
    ReturnsInHanded {} Tryd.checked os 9 .any (fun w args => (Rows.addrTextsSpec.pre enc Tryd.prog Tryd.f9 [] false w args ∧ laidMetH Tryd.prog laidL w) ∧ sizedMet enc Tryd.prog Tryd.f9 (OpenSpec.ofChange Rows.addrTextsSpec) false w args) (Rows.addrTextsSpec.post enc Tryd.prog Tryd.f9 false true false false) := by
  refine returnsInHanded_of_change_and (C := Tryd.checked) (X := fun w _ => laidMetH Tryd.prog laidL w) (fun _ _ _ hh h => h.of_heap hh) own started (by kernel_rfl) Tryd.func9
    (ChangeSpec.witness_shaped (enc := enc) (C := Tryd.checked) (os := os) (X := fun w _ => laidMetH Tryd.prog laidL w) false (doorW os) #[ag [0, 0, 0, 0, 0, 0], .string ByteArray.empty] 8 rfl (World.shaped_of_RefB (by kernel_rfl) (by kernel_rfl)) (by kernel_rfl) (by kernel_rfl) (by kernel_rfl) (door_met os _)) ?_
  intro W base args ds gs before hval0 hW _ _ hL _
  have hval : ∀ (j : Nat) t v, Tryd.f9.params[j]? = some t → args[j]? = some v → Value.okWide Tryd.prog W .any base t v := hval0
  have hW' := hW
  obtain ⟨p, q, hA0, hV, rfl, hfz, hnd⟩ := hW
  have hA : DataW.TrodAll enc Tryd.prog W 0 (fun _ => true) true Tryd.f9.params.toList args.toList ds p := hA0
  rw [Tryd.params9] at hA hval
  obtain ⟨v0, vs0, d0, ds0, p0, q0, hargs, rfl, rfl, h0, r0⟩ := trodAll_cons hA
  obtain ⟨v1, vs1, d1, ds1, p1, q1, rfl, rfl, rfl, h1, r1⟩ := trodAll_cons r0
  obtain ⟨rfl, rfl, rfl⟩ := trodAll_nil r1
  obtain rfl : args = #[v0, v1] := by cases args; simp_all
  obtain ⟨rfl, rfl⟩ := trodVars_none hV
  have k0 := h0
  have lt0 : ∀ x ∈ p0, x.block < W.heap.size := by obtain ⟨m, hm⟩ := k0; exact DataW.trod_lt m _ _ _ hm
  obtain ⟨l0, rfl, g0⟩ := open_flat (D := 5) (ks := ksMc) (by kernel_rfl) (by kernel_rfl) (hval 0 23 v0 rfl rfl) h0
  obtain ⟨a, b, c, d, e, f, rfl, hb⟩ := dec8 l0 g0
  have k1 := h1
  have lt1 : ∀ x ∈ p1, x.block < W.heap.size := by obtain ⟨m, hm⟩ := k1; exact DataW.trod_lt m _ _ _ hm
  obtain ⟨a1, rfl, rfl, rfl, y1⟩ := open_string Tryd.underlying9 (hval 1 9 v1 rfl rfl) h1
  clear hA0 hval0
  refine (FSpec.law (AddrTexts_spec W (of_laidT hL).1 (of_laidT hL).2 _ hb a1)).mono fun e W' ⟨he, bel⟩ => ?_
  subst he
  exact ⟨_, rfl, _, _, _, [], _, [], hW', trodAll_mk1 (shut_bool Tryd.underlying4 _), (trodAll_cons_mk (Below.trod laidOut (by kernel_rfl) (of_decide_eq_true (by kernel_rfl)) k0 bel lt0) (trodAll_cons_mk (Below.trod laidOut (by kernel_rfl) (of_decide_eq_true (by kernel_rfl)) k1 bel lt1) trodAll_mk0)), rfl, bel.frame _, fun h => by cases h⟩
theorem over : Rows.addrTextsRow.holds Tryd.pinned (OpenSpec.ofChange Rows.addrTextsSpec) :=
  OpenClaim.holds_of_wide 9 Tryd.f9 rfl rfl rfl rfl rfl rfl rfl ⟨rfl, rfl, rfl, rfl, rfl⟩ rfl rfl rfl rfl rfl (by kernel_rfl) Tryd.func9 (by kernel_rfl)
    (of_decide_eq_true (by kernel_rfl)) (by unfold Func.isWrapper; first | (rw [if_pos (by decide +kernel)]; kernel_rfl) | (rw [if_neg (by decide +kernel)]; exact ⟨rfl, rfl⟩))
    (fun os started H enc _ => lifted os started H enc)
end Go.Proofs.YtkkoepnljofhpaaDoor.addrTexts
namespace Go.Proofs.YtkkoepnljofhpaaDoor
open Go in
theorem addrTexts_holds : Rows.AddrTextsCardSaid :=
  Claim7.holds_tied_plain_at .later [] [.data, .data, .data, .data, .sentinel, .sentinel, .pinned] true (true, "4352026d3f8f8474df4fe9aa230f97f4a130db5e6d5637098bc58d5d0327bd74") true
    addrTexts.over (fun _ h => by cases h) (by kernel_rfl) (fun _ h => by cases h) addrTexts_row_tie rfl ⟨rfl, rfl⟩ (by kernel_rfl) rfl
    (fun f fn hf hfn => by
      obtain rfl : f = 9 := Option.some.inj ((show Tryd.prog.funcNamed "pitot/pitotlaw03.AddrTexts" = some 9 by kernel_rfl).symm.trans hf) |>.symm
      obtain rfl : fn = Tryd.f9 := (Option.some.inj (Tryd.func9.symm.trans hfn)).symm
      exact ⟨by kernel_rfl, fun j t ht => by
        rw [Tryd.params9] at ht
        have hm : t ∈ [23, 9] := by simpa using Array.mem_of_getElem? ht
        have hall : ([23, 9].all fun u => !Tryd.prog.wantsStandIn u) = true := by kernel_rfl
        exact (show Tryd.prog.wantsStandIn t = false by simpa using List.all_eq_true.1 hall t hm)⟩)
    (by kernel_rfl)
#print axioms addrTexts_holds
end Go.Proofs.YtkkoepnljofhpaaDoor
namespace Go.Proofs.YtkkoepnljofhpaaDoor
open Go.SLA
end Go.Proofs.YtkkoepnljofhpaaDoor
