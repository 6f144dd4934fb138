/- AddrTells: for every six bytes the law answers true: what has an address is the document's answer. -/
import Derived.Test.YtkkoepnljofhpaaDoorAm
import Derived.Test.YtkkoepnljofhpaaDoorXc
import Derived.Test.YtkkoepnljofhpaaDoorAj
import Derived.Test.YtkkoepnljofhpaaDoorTie
import Derived.Test.YtkkoepnljofhpaaDoorCards
import Derived.Test.YtkkoepnljofhpaaDoorChecked
import Derived.ProofKit
import Derived.LaidMore
import Derived.OpenShut
import Derived.Stop.Joined
import Derived.SevenTiedAt
import Derived.Test.YtkkoepnljofhpaaDoorH
namespace Go.Proofs.YtkkoepnljofhpaaDoor
open Go.SLA
set_option maxRecDepth 100000
set_option linter.unusedVariables false
set_option linter.unusedSimpArgs false
attribute [local irreducible] J L K QL Rg FSpec OpV OpX Rd Back
structure Mc where
  a : Int
  b : Int
  c : Int
  d : Int
  e : Int
  f : Int
def encMc (x : Mc) : List Value := [.int .u8 x.a, .int .u8 x.b, .int .u8 x.c, .int .u8 x.d, .int .u8 x.e, .int .u8 x.f]
def okMc (x : Mc) : Prop := (Lit.int .u8 x.a).wf = true ∧ (Lit.int .u8 x.b).wf = true ∧ (Lit.int .u8 x.c).wf = true ∧ (Lit.int .u8 x.d).wf = true ∧ (Lit.int .u8 x.e).wf = true ∧ (Lit.int .u8 x.f).wf = true
abbrev ksMc : List CK := [.int .u8, .int .u8, .int .u8, .int .u8, .int .u8, .int .u8]
theorem encMc_len (x : Mc) : (encMc x).length = 6 := rfl
theorem decMc (cs : List Value) (h : Kinds ksMc cs) : ∃ x, cs = encMc x ∧ okMc x := by
  obtain ⟨hl, hk⟩ := h
  obtain ⟨v0, g0, x0, rfl, w0⟩ := hk 0 _ rfl
  obtain ⟨v1, g1, x1, rfl, w1⟩ := hk 1 _ rfl
  obtain ⟨v2, g2, x2, rfl, w2⟩ := hk 2 _ rfl
  obtain ⟨v3, g3, x3, rfl, w3⟩ := hk 3 _ rfl
  obtain ⟨v4, g4, x4, rfl, w4⟩ := hk 4 _ rfl
  obtain ⟨v5, g5, x5, rfl, w5⟩ := hk 5 _ rfl
  match cs, hl with
  | [c0, c1, c2, c3, c4, c5], _ =>
    simp only [List.getElem?_cons_zero, List.getElem?_cons_succ, Option.some.injEq] at g0 g1 g2 g3 g4 g5
    exact ⟨⟨x0, x1, x2, x3, x4, x5⟩, by simp only [encMc, *], ⟨w0, w1, w2, w3, w4, w5⟩⟩


theorem nat8 {n : Int} (h : (Lit.int .u8 n).wf = true) : ∃ m : Nat, n = (m : Int) ∧ m < 256 := by
  have : 0 ≤ n ∧ n ≤ 255 := by simpa [Lit.wf, IntKind.min, IntKind.max, IntKind.signed, IntKind.bits] using h
  exact ⟨n.toNat, by omega, by omega⟩
theorem dec8 (cs : List Value) (h : Kinds ksMc cs) : ∃ a b c d e f : Nat, cs = [a, b, c, d, e, f].map enc8 ∧ Bys 6 [a, b, c, d, e, f] := by
  obtain ⟨⟨a, b, c, d, e, f⟩, rfl, h1, h2, h3, h4, h5, h6⟩ := decMc cs h
  obtain ⟨a, rfl, ha⟩ := nat8 h1
  obtain ⟨b, rfl, hb⟩ := nat8 h2
  obtain ⟨c, rfl, hc⟩ := nat8 h3
  obtain ⟨d, rfl, hd⟩ := nat8 h4
  obtain ⟨e, rfl, he⟩ := nat8 h5
  obtain ⟨f, rfl, hf⟩ := nat8 h6
  exact ⟨a, b, c, d, e, f, rfl, bys6 ⟨ha, hb, hc, hd, he, hf⟩⟩
theorem bys_cdef {a b c d e f : Nat} (h : Bys 6 [a, b, c, d, e, f]) : Bys 4 [c, d, e, f] := by
  have := h.2
  simp at this
  exact bys4 (by omega)


theorem ROf_of (a b c d e f : Nat) (hb : Bys 6 [a, b, c, d, e, f]) : FSpec Tryd.prog 25 #[.string (tx [a, b, c, d, e, f])] emp (fun _ : Unit => True) (fun _ => .tuple #[.int .i64 (ofP [a, b, c, d, e, f] (num2 d e) (((f / 32 : Nat) : Int) - 1)).1, .int .i64 (ofP [a, b, c, d, e, f] (num2 d e) (((f / 32 : Nat) : Int) - 1)).2.1, .int .i64 (ofP [a, b, c, d, e, f] (num2 d e) (((f / 32 : Nat) : Int) - 1)).2.2]) (fun _ => emp) := by
  rw [ofP_rofP a b c d e f]
  exact ROf_any a b c d e f hb
attribute [local irreducible] tx ofP vlP whP num2

theorem AddrTells_spec (W : World) (hW : W.cell? (ad 7 15) = some (.int .u8 4)) (a b c d e f : Nat) (hb : Bys 6 [a, b, c, d, e, f]) : FSpec Tryd.prog 4 #[ag [a, b, c, d, e, f]] (old W) (fun _ : Unit => True) (fun _ => .bool true) (fun _ => old W) := by
  refine FSpec.enter' Tryd.func4 rfl Tryd.ntmps4 rfl fun σ F => ?_
  have hq : a < 256 ∧ b < 256 ∧ c < 256 ∧ d < 256 ∧ e < 256 ∧ f < 256 := by have := hb.2; simp at this; omega
  refine J_seq ?_
  refine J_region ?_
  refine L_x rfl (opx_box (l := [a, b, c, d, e, f].map enc8) rfl rfl) (fun b1 _ => ?_)
  refine L_v (opv_assign rfl) rfl ?_
  refine L_nil ?_
  refine K_then ?_
  refine J_seq ?_
  refine J_region ?_
  refine L_v (opv_loadW rfl rfl) rfl ?_
  refine L_x rfl (opx_call0 (VL_any a b c d e f hb) rfl rfl rfl) (fun _ _ => ?_)
  refine L_emp ?_
  refine L_v (opv_move rfl) rfl ?_
  refine L_v (opv_extract (v := .int .i64 ((vlP [a, b, c, d, e, f] (num2 e f)).1)) rfl rfl) rfl ?_
  refine L_v (opv_extract (v := .int .i64 ((vlP [a, b, c, d, e, f] (num2 e f)).2)) rfl rfl) rfl ?_
  refine L_v (opv_assign rfl) rfl ?_
  refine L_v (opv_assign rfl) rfl ?_
  refine L_nil ?_
  refine K_then ?_
  refine J_seq ?_
  refine J_region ?_
  refine L_v (opv_loadW rfl rfl) rfl ?_
  refine L_x rfl (opx_call0 (text_any hb) rfl rfl rfl) (fun _ _ => ?_)
  refine L_emp ?_
  refine L_x rfl (opx_call0 (RVL_any a b c d e f hb) rfl rfl rfl) (fun _ _ => ?_)
  refine L_emp ?_
  refine L_v (opv_move rfl) rfl ?_
  refine L_v (opv_extract (v := .int .i64 ((vlP [a, b, c, d, e, f] (num2 e f)).1)) rfl rfl) rfl ?_
  refine L_v (opv_extract (v := .int .i64 ((vlP [a, b, c, d, e, f] (num2 e f)).2)) rfl rfl) rfl ?_
  refine L_v (opv_assign rfl) rfl ?_
  refine L_v (opv_assign rfl) rfl ?_
  refine L_nil ?_
  refine K_then ?_
  refine J_seq ?_
  refine J_region ?_
  refine L_v (opv_loadW rfl rfl) rfl ?_
  refine L_x rfl (opx_call0 (Of_any a b c d e f hb) rfl rfl rfl) (fun _ _ => ?_)
  refine L_emp ?_
  refine L_v (opv_move rfl) rfl ?_
  refine L_v (opv_extract (v := .agg [.int .i64 (ofP [a, b, c, d, e, f] (num2 d e) (((f / 32 : Nat) : Int) - 1)).1, .int .i64 (ofP [a, b, c, d, e, f] (num2 d e) (((f / 32 : Nat) : Int) - 1)).2.1].toArray) rfl rfl) rfl ?_
  refine L_v (opv_extract (v := .int .i64 ((ofP [a, b, c, d, e, f] (num2 d e) (((f / 32 : Nat) : Int) - 1)).2.2)) rfl rfl) rfl ?_
  refine L_x rfl (opx_alloc rfl) (fun b7 _ => ?_)
  refine L_x rfl (opx_store rfl rfl rfl (by simp [Value.oneCell'])) (fun _ _ => ?_)
  refine L_v (opv_assign rfl) rfl ?_
  refine L_nil ?_
  refine K_then ?_
  refine J_seq ?_
  refine J_region ?_
  refine L_v (opv_loadW rfl rfl) rfl ?_
  refine L_x rfl (opx_call0 (text_any hb) rfl rfl rfl) (fun _ _ => ?_)
  refine L_emp ?_
  refine L_x rfl (opx_call0 (ROf_of a b c d e f hb) rfl rfl rfl) (fun _ _ => ?_)
  refine L_emp ?_
  refine L_v (opv_move rfl) rfl ?_
  refine L_v (opv_extract (v := .int .i64 ((ofP [a, b, c, d, e, f] (num2 d e) (((f / 32 : Nat) : Int) - 1)).1)) rfl rfl) rfl ?_
  refine L_v (opv_extract (v := .int .i64 ((ofP [a, b, c, d, e, f] (num2 d e) (((f / 32 : Nat) : Int) - 1)).2.1)) rfl rfl) rfl ?_
  refine L_v (opv_extract (v := .int .i64 ((ofP [a, b, c, d, e, f] (num2 d e) (((f / 32 : Nat) : Int) - 1)).2.2)) rfl rfl) rfl ?_
  refine L_v (opv_assign rfl) rfl ?_
  refine L_v (opv_assign rfl) rfl ?_
  refine L_v (opv_assign rfl) rfl ?_
  refine L_nil ?_
  refine K_then ?_
  refine J_seq ?_
  refine J_region ?_
  refine L_v ((opv_indexAddrA rfl rfl (by decide)).as (v' := .pointer (some (ad b1 2))) rfl) rfl ?_
  refine L_v (opv_load (v := .int .u8 ((c : Nat) : Int)) rfl (Rd.look rfl)) rfl ?_
  refine L_v ((opv_indexAddrA rfl rfl (by decide)).as (v' := .pointer (some (ad b1 3))) rfl) rfl ?_
  refine L_v (opv_load (v := .int .u8 ((d : Nat) : Int)) rfl (Rd.look rfl)) rfl ?_
  refine L_v ((opv_indexAddrA rfl rfl (by decide)).as (v' := .pointer (some (ad b1 4))) rfl) rfl ?_
  refine L_v (opv_load (v := .int .u8 ((e : Nat) : Int)) rfl (Rd.look rfl)) rfl ?_
  refine L_v ((opv_indexAddrA rfl rfl (by decide)).as (v' := .pointer (some (ad b1 5))) rfl) rfl ?_
  refine L_v (opv_load (v := .int .u8 ((f : Nat) : Int)) rfl (Rd.look rfl)) rfl ?_
  refine L_v ((opv_buildA (pl := [(0, 1), (1, 1), (2, 1), (3, 1)]) rfl rfl).as (v' := ag [c, d, e, f]) rfl) rfl ?_
  refine L_x rfl (opx_call0 (Whose_any c d e f (bys_cdef hb)) rfl rfl rfl) (fun _ _ => ?_)
  refine L_emp ?_
  refine L_v (opv_move rfl) rfl ?_
  refine L_v (opv_extract (v := .int .i64 ((whP [c, d, e, f] (num2 d e) f (num2 e f)).1)) rfl rfl) rfl ?_
  refine L_v (opv_extract (v := .int .i64 ((whP [c, d, e, f] (num2 d e) f (num2 e f)).2.1)) rfl rfl) rfl ?_
  refine L_v (opv_extract (v := .int .i64 ((whP [c, d, e, f] (num2 d e) f (num2 e f)).2.2.1)) rfl rfl) rfl ?_
  refine L_v (opv_extract (v := .int .i64 ((whP [c, d, e, f] (num2 d e) f (num2 e f)).2.2.2)) rfl rfl) rfl ?_
  refine L_v (opv_assign rfl) rfl ?_
  refine L_v (opv_assign rfl) rfl ?_
  refine L_v (opv_assign rfl) rfl ?_
  refine L_v (opv_assign rfl) rfl ?_
  refine L_nil ?_
  refine K_then ?_
  refine J_seq ?_
  refine J_region ?_
  refine L_v (opv_loadW rfl rfl) rfl ?_
  refine L_x rfl (opx_call0 (text_any hb) rfl rfl rfl) (fun _ _ => ?_)
  refine L_emp ?_
  refine L_v ((opv_sliceTx [a, b, c, d, e, f] rfl rfl (by simp)).as (v' := .string (tx [c, d, e, f])) rfl) rfl ?_
  refine L_x rfl (opx_call0 (RWhose_any c d e f (bys_cdef hb)) rfl rfl rfl) (fun _ _ => ?_)
  refine L_emp ?_
  refine L_v (opv_move rfl) rfl ?_
  refine L_v (opv_extract (v := .int .i64 ((whP [c, d, e, f] (num2 d e) f (num2 e f)).1)) rfl rfl) rfl ?_
  refine L_v (opv_extract (v := .int .i64 ((whP [c, d, e, f] (num2 d e) f (num2 e f)).2.1)) rfl rfl) rfl ?_
  refine L_v (opv_extract (v := .int .i64 ((whP [c, d, e, f] (num2 d e) f (num2 e f)).2.2.1)) rfl rfl) rfl ?_
  refine L_v (opv_extract (v := .int .i64 ((whP [c, d, e, f] (num2 d e) f (num2 e f)).2.2.2)) rfl rfl) rfl ?_
  refine L_v (opv_assign rfl) rfl ?_
  refine L_v (opv_assign rfl) rfl ?_
  refine L_v (opv_assign rfl) rfl ?_
  refine L_v (opv_assign rfl) rfl ?_
  refine L_nil ?_
  refine K_then ?_
  refine J_seq ?_
  refine J_region ?_
  refine L_v (opv_move rfl) rfl ?_
  refine L_v (opv_move rfl) rfl ?_
  refine L_v ((opv_eql rfl rfl).bool_t rfl) rfl ?_
  refine L_v (opv_move rfl) rfl ?_
  refine L_gon rfl rfl rfl ?_
  refine L_v (opv_move rfl) rfl ?_
  refine L_gon rfl rfl rfl ?_
  refine L_v (opv_move rfl) rfl ?_
  refine L_gon rfl rfl rfl ?_
  refine L_v ((opv_eql rfl rfl).bool_t rfl) rfl ?_
  first
    | refine L_v (opv_pick_tt rfl rfl) rfl ?_
    | refine L_v (opv_pick_ff rfl rfl) rfl ?_
    | refine L_v (opv_pick rfl rfl rfl) rfl ?_
  refine L_v (opv_move rfl) rfl ?_
  refine L_gon rfl rfl rfl ?_
  refine L_v (opv_loadS rfl) rfl ?_
  refine L_gon rfl rfl rfl ?_
  refine L_v (opv_move rfl) rfl ?_
  refine L_gon rfl rfl rfl ?_
  refine L_v (opv_move rfl) rfl ?_
  refine L_gon rfl rfl rfl ?_
  refine L_v (opv_build rfl) rfl ?_
  refine L_gon rfl rfl rfl ?_
  refine L_v ((opv_eqlF rfl rfl (by simp [Shape, CK.sh]) (by simp [Shape, CK.sh])).bool_t rfl) rfl ?_
  first
    | refine L_v (opv_pick_tt rfl rfl) rfl ?_
    | refine L_v (opv_pick_ff rfl rfl) rfl ?_
    | refine L_v (opv_pick rfl rfl rfl) rfl ?_
  refine L_v (opv_move rfl) rfl ?_
  refine L_gon rfl rfl rfl ?_
  refine L_v (opv_move rfl) rfl ?_
  refine L_gon rfl rfl rfl ?_
  refine L_v (opv_move rfl) rfl ?_
  refine L_gon rfl rfl rfl ?_
  refine L_v ((opv_eql rfl rfl).bool_t rfl) rfl ?_
  first
    | refine L_v (opv_pick_tt rfl rfl) rfl ?_
    | refine L_v (opv_pick_ff rfl rfl) rfl ?_
    | refine L_v (opv_pick rfl rfl rfl) rfl ?_
  refine L_v (opv_move rfl) rfl ?_
  refine L_gon rfl rfl rfl ?_
  refine L_v (opv_move rfl) rfl ?_
  refine L_gon rfl rfl rfl ?_
  refine L_v (opv_move rfl) rfl ?_
  refine L_gon rfl rfl rfl ?_
  refine L_v ((opv_eql rfl rfl).bool_t rfl) rfl ?_
  first
    | refine L_v (opv_pick_tt rfl rfl) rfl ?_
    | refine L_v (opv_pick_ff rfl rfl) rfl ?_
    | refine L_v (opv_pick rfl rfl rfl) rfl ?_
  refine L_v (opv_move rfl) rfl ?_
  refine L_gon rfl rfl rfl ?_
  refine L_v (opv_move rfl) rfl ?_
  refine L_gon rfl rfl rfl ?_
  refine L_v (opv_move rfl) rfl ?_
  refine L_gon rfl rfl rfl ?_
  refine L_v ((opv_eql rfl rfl).bool_t rfl) rfl ?_
  first
    | refine L_v (opv_pick_tt rfl rfl) rfl ?_
    | refine L_v (opv_pick_ff rfl rfl) rfl ?_
    | refine L_v (opv_pick rfl rfl rfl) rfl ?_
  refine L_v (opv_move rfl) rfl ?_
  refine L_gon rfl rfl rfl ?_
  refine L_v (opv_move rfl) rfl ?_
  refine L_gon rfl rfl rfl ?_
  refine L_v (opv_move rfl) rfl ?_
  refine L_gon rfl rfl rfl ?_
  refine L_v ((opv_eql rfl rfl).bool_t rfl) rfl ?_
  first
    | refine L_v (opv_pick_tt rfl rfl) rfl ?_
    | refine L_v (opv_pick_ff rfl rfl) rfl ?_
    | refine L_v (opv_pick rfl rfl rfl) rfl ?_
  refine L_v (opv_move rfl) rfl ?_
  refine L_gon rfl rfl rfl ?_
  refine L_v (opv_move rfl) rfl ?_
  refine L_gon rfl rfl rfl ?_
  refine L_v (opv_move rfl) rfl ?_
  refine L_gon rfl rfl rfl ?_
  refine L_v ((opv_eql rfl rfl).bool_t rfl) rfl ?_
  first
    | refine L_v (opv_pick_tt rfl rfl) rfl ?_
    | refine L_v (opv_pick_ff rfl rfl) rfl ?_
    | refine L_v (opv_pick rfl rfl rfl) rfl ?_
  refine L_v (opv_move rfl) rfl ?_
  refine L_gon rfl rfl rfl ?_
  refine L_x rfl (opx_call0 (awake_spec W hW) rfl rfl rfl) (fun _ _ => ?_)
  first
    | refine L_v (opv_pick_tt rfl rfl) rfl ?_
    | refine L_v (opv_pick_ff rfl rfl) rfl ?_
    | refine L_v (opv_pick rfl rfl rfl) rfl ?_
  refine L_v (opv_assign rfl) rfl ?_
  refine L_nil ?_
  refine K_then ?_
  refine J_ret ?_
  exact K_ret1 rfl rfl () trivial (rfl) Ent.take

end Go.Proofs.YtkkoepnljofhpaaDoor
namespace Go.Proofs.YtkkoepnljofhpaaDoor.addrTells
open Go.ChangeShapes Go.WideShapes Go.ChangeAt Go.RowKit Go.SLA
open Go.ChangeMaps (open_string shut_string)
set_option linter.unusedVariables false
theorem own : ownKnob Tryd.prog.godebug = none := by kernel_rfl
theorem laidOut : laidOutB Tryd.prog = true := by kernel_rfl
abbrev laidL := Rows.addrTellsRow.laid
theorem door_met (os : Os) (args : Array Value) : laidMetH Tryd.prog laidL ((World.doorLaid Tryd.prog 72 os).forCall (fun _ _ => 0) ⟨#[], args, []⟩).memory :=
  laidMetH_of_parts3 (fuel := 8) (laidMet_of_run' 8 (by kernel_rfl) (by kernel_rfl)) (by kernel_rfl) (by kernel_rfl)
set_option maxRecDepth 100000 in
theorem lifted (os : Os) (started : os.Started) (H : Type) (enc : TypeId × Value → H) :
    ReturnsInHanded {} Tryd.checked os 4 .any (fun w args => (Rows.addrTellsSpec.pre enc Tryd.prog Tryd.f4 [] false w args ∧ laidMetH Tryd.prog laidL w) ∧ sizedMet enc Tryd.prog Tryd.f4 (OpenSpec.ofChange Rows.addrTellsSpec) false w args) (Rows.addrTellsSpec.post enc Tryd.prog Tryd.f4 false true false false) := by
  refine returnsInHanded_of_change_and (C := Tryd.checked) (X := fun w _ => laidMetH Tryd.prog laidL w) (fun _ _ _ hh h => h.of_heap hh) own started (by kernel_rfl) Tryd.func4
    (ChangeSpec.witness_shaped (enc := enc) (C := Tryd.checked) (os := os) (X := fun w _ => laidMetH Tryd.prog laidL w) false (World.doorLaid Tryd.prog 72 os) #[ag [0, 0, 0, 0, 0, 0]] 8 rfl (World.shaped_of_RefB (by kernel_rfl) (by kernel_rfl)) (by kernel_rfl) (by kernel_rfl) (by kernel_rfl) (door_met os _)) ?_
  intro W base args ds gs before hval0 hW _ _ hL _
  have hval : ∀ (j : Nat) t v, Tryd.f4.params[j]? = some t → args[j]? = some v → Value.okWide Tryd.prog W .any base t v := hval0
  have hW' := hW
  obtain ⟨p, q, hA0, hV, rfl, hfz, hnd⟩ := hW
  have hA : DataW.TrodAll enc Tryd.prog W 0 (fun _ => true) true Tryd.f4.params.toList args.toList ds p := hA0
  rw [Tryd.params4] at hA hval
  obtain ⟨v0, vs0, d0, ds0, p0, q0, hargs, rfl, rfl, h0, r0⟩ := trodAll_cons hA
  obtain ⟨rfl, rfl, rfl⟩ := trodAll_nil r0
  obtain rfl : args = #[v0] := by cases args; simp_all
  obtain ⟨rfl, rfl⟩ := trodVars_none hV
  have k0 := h0
  have lt0 : ∀ x ∈ p0, x.block < W.heap.size := by obtain ⟨m, hm⟩ := k0; exact DataW.trod_lt m _ _ _ hm
  obtain ⟨l0, rfl, g0⟩ := open_flat (D := 5) (ks := ksMc) (by kernel_rfl) (by kernel_rfl) (hval 0 23 v0 rfl rfl) h0
  obtain ⟨a, b, c, d, e, f, rfl, hb⟩ := dec8 l0 g0
  clear hA0 hval0
  refine (FSpec.law (AddrTells_spec W (of_laid hL) a b c d e f hb)).mono fun e W' ⟨he, bel⟩ => ?_
  subst he
  exact ⟨_, rfl, _, _, _, [], _, [], hW', trodAll_mk1 (shut_bool Tryd.underlying4 _), (trodAll_cons_mk (Below.trod laidOut (by kernel_rfl) (of_decide_eq_true (by kernel_rfl)) k0 bel lt0) trodAll_mk0), rfl, bel.frame _, fun h => by cases h⟩
theorem over : Rows.addrTellsRow.holds Tryd.pinned (OpenSpec.ofChange Rows.addrTellsSpec) :=
  OpenClaim.holds_of_wide 4 Tryd.f4 rfl rfl rfl rfl rfl rfl rfl ⟨rfl, rfl, rfl, rfl, rfl⟩ rfl rfl rfl rfl rfl (by kernel_rfl) Tryd.func4 (by kernel_rfl)
    (of_decide_eq_true (by kernel_rfl)) (by unfold Func.isWrapper; first | (rw [if_pos (by decide +kernel)]; kernel_rfl) | (rw [if_neg (by decide +kernel)]; exact ⟨rfl, rfl⟩))
    (fun os started H enc _ => lifted os started H enc)
end Go.Proofs.YtkkoepnljofhpaaDoor.addrTells
namespace Go.Proofs.YtkkoepnljofhpaaDoor
open Go in
theorem addrTells_holds : Rows.AddrTellsCardSaid :=
  Claim7.holds_tied_plain_at .later [] [.data, .data, .data] true (true, "4352026d3f8f8474df4fe9aa230f97f4a130db5e6d5637098bc58d5d0327bd74") true
    addrTells.over (fun _ h => by cases h) (by kernel_rfl) (fun _ h => by cases h) addrTells_row_tie rfl ⟨rfl, rfl⟩ (by kernel_rfl) rfl
    (fun f fn hf hfn => by
      obtain rfl : f = 4 := Option.some.inj ((show Tryd.prog.funcNamed "pitot/pitotlaw03.AddrTells" = some 4 by kernel_rfl).symm.trans hf) |>.symm
      obtain rfl : fn = Tryd.f4 := (Option.some.inj (Tryd.func4.symm.trans hfn)).symm
      exact ⟨by kernel_rfl, fun j t ht => by
        rw [Tryd.params4] at ht
        have hm : t ∈ [23] := by simpa using Array.mem_of_getElem? ht
        have hall : ([23].all fun u => !Tryd.prog.wantsStandIn u) = true := by kernel_rfl
        exact (show Tryd.prog.wantsStandIn t = false by simpa using List.all_eq_true.1 hall t hm)⟩)
    (by kernel_rfl)
#print axioms addrTells_holds
end Go.Proofs.YtkkoepnljofhpaaDoor
namespace Go.Proofs.YtkkoepnljofhpaaDoor
open Go.SLA
end Go.Proofs.YtkkoepnljofhpaaDoor
