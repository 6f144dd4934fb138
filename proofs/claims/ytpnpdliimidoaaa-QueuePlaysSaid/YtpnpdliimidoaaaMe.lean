/- The law MuxNil of the package pitotlaw14 holds for every input: a nil line sends nothing. No condition. -/
import Derived.Test.YtpnpdliimidoaaaMd
import Derived.Test.YtpnpdliimidoaaaH
namespace Go.Proofs.Ytpnpdliimidoaaa
open Go.SLA
set_option maxRecDepth 100000
set_option linter.unusedVariables false
set_option linter.unusedSimpArgs false
attribute [local irreducible] J L K QL Rg FSpec OpV OpX Rd Back
theorem awake_a : offer [] 0 0 0 1 (xs 80) = (0, [⟨1, xs 80, 0, 100⟩], 0, 100) := by
  have hs := xs_size 80
  rw [offer_d (by decide) (by rw [hs]; decide) (by decide), hs]
  rfl
theorem awake_b : offer [⟨1, xs 80, 0, 100⟩] 0 100 10 2 (xs 30) = (0, [⟨1, xs 80, 0, 100⟩, ⟨2, xs 30, 100, 150⟩], 10, 150) := by
  have hs := xs_size 30
  rw [offer_d (by decide) (by rw [hs]; decide) (by decide), hs]
  rfl
theorem awake_1 (p : Nat) : FSpec Try.prog 19 #[.pointer (some (ad p 0)), .int .i64 0, .int .i64 1, .string (xs 80)] (LineP p [] 0 0) (fun _ : Unit => True) (fun _ => .int .i64 0) (fun _ => LineP p [⟨1, xs 80, 0, 100⟩] 0 100) := by
  have := Offer_spec p [] 0 0 0 1 (xs 80) (by omega) (by omega)
  rwa [awake_a] at this
theorem awake_2 (p : Nat) : FSpec Try.prog 19 #[.pointer (some (ad p 0)), .int .i64 10, .int .i64 2, .string (xs 30)] (LineP p [⟨1, xs 80, 0, 100⟩] 0 100) (fun _ : Unit => True) (fun _ => .int .i64 0) (fun _ => LineP p [⟨1, xs 80, 0, 100⟩, ⟨2, xs 30, 100, 150⟩] 10 150) := by
  have := Offer_spec p [⟨1, xs 80, 0, 100⟩] 0 100 10 2 (xs 30) (by omega) (by omega)
  rwa [awake_b] at this
theorem awake_3 (p : Nat) : FSpec Try.prog 20 #[.pointer (some (ad p 0)), .int .i64 150] (LineP p [⟨1, xs 80, 0, 100⟩, ⟨2, xs 30, 100, 150⟩] 10 150) (fun _ : Option Addr × Nat => True)
    (fun x => .tuple #[.slice x.1 2 x.2, .int .i64 0]) (fun x => GoneP p x [⟨1, xs 80, 0, 100⟩, ⟨2, xs 30, 100, 150⟩] [] 150 150) := by
  exact Pass_ok p [⟨1, xs 80, 0, 100⟩, ⟨2, xs 30, 100, 150⟩] 10 150 150 (by decide) (by decide)

theorem awake_spec  : FSpec Try.prog 16 #[] (emp) (fun _ : Unit => True) (fun _ => .bool true) (fun _ => emp) := by
  refine FSpec.enter' Try.func16 rfl Try.ntmps16 rfl fun σ F => ?_
  refine J_emp ?_
  refine J_seq ?_
  refine J_region ?_
  refine L_v (opv_assign rfl) rfl ?_
  refine L_nil ?_
  refine K_then ?_
  refine J_seq ?_
  refine J_region ?_
  refine L_x rfl (opx_call0 (New_spec) rfl rfl rfl) (fun p _ => ?_)
  refine L_v (opv_assign rfl) rfl ?_
  refine L_nil ?_
  refine K_then ?_
  refine J_seq ?_
  refine J_seq ?_
  refine J_region ?_
  refine L_v (opv_move rfl) rfl ?_
  first
    | refine L_v (opv_eql rfl rfl) rfl ?_
    | refine L_v (opv_eqlS rfl rfl) rfl ?_
    | refine L_v (opv_eqlNil rfl rfl) rfl ?_
    | refine L_v (opv_eqlB rfl rfl) rfl ?_
  refine L_nil ?_
  refine K_then ?_
  refine J_cond_false rfl ?_
  refine J_skip ?_
  refine K_then ?_
  refine J_seq ?_
  refine J_region ?_
  refine L_v (opv_move rfl) rfl ?_
  refine L_x rfl (opx_call0 (bytes_spec 80 (by decide)) rfl rfl rfl) (fun _ _ => ?_)
  refine L_emp ?_
  refine L_x rfl (opx_call0 (awake_1 p) rfl rfl rfl) (fun _ _ => ?_)
  refine L_nil ?_
  refine K_then ?_
  refine J_seq ?_
  refine J_region ?_
  refine L_v (opv_move rfl) rfl ?_
  refine L_x rfl (opx_call0 (bytes_spec 30 (by decide)) rfl rfl rfl) (fun _ _ => ?_)
  refine L_emp ?_
  refine L_x rfl (opx_call0 (awake_2 p) rfl rfl rfl) (fun _ _ => ?_)
  refine L_nil ?_
  refine K_then ?_
  refine J_seq ?_
  refine J_region ?_
  refine L_v (opv_move rfl) rfl ?_
  refine L_x rfl (opx_call0 (awake_3 p) rfl rfl rfl) (fun x _ => ?_)
  refine L_v (opv_move rfl) rfl ?_
  refine L_v (opv_extract rfl rfl) rfl ?_
  refine L_v (opv_extract rfl rfl) rfl ?_
  refine L_v (opv_assign rfl) rfl ?_
  refine L_v (opv_assign rfl) rfl ?_
  refine L_nil ?_
  refine K_then ?_
  refine J_seq ?_
  refine J_know (fun w hs => GoneP.some (p := p) (x := x) (g := [⟨1, xs 80, 0, 100⟩, ⟨2, xs 30, 100, 150⟩]) (q := []) (cur := 150) (free := 150) hs) fun hx => ?_
  rcases hx with ⟨_, hx⟩ | ⟨bb, oo, rfl⟩
  · cases hx
  refine J_region ?_
  refine L_v (opv_move rfl) rfl ?_
  first
    | refine L_v (opv_eql rfl rfl) rfl ?_
    | refine L_v (opv_eqlS rfl rfl) rfl ?_
    | refine L_v (opv_eqlNil rfl rfl) rfl ?_
    | refine L_v (opv_eqlB rfl rfl) rfl ?_
  refine L_v (opv_move rfl) rfl ?_
  refine L_gt rfl rfl (fun h1 => ?_) (fun h1 => absurd rfl h1) (fun _ h => by cases h; rfl)
  refine L_v (opv_move rfl) rfl ?_
  refine L_gt_on h1 rfl rfl ?_
  first
    | refine L_v (opv_lenL rfl) rfl ?_
    | refine L_v (opv_lenS rfl) rfl ?_
  refine L_gt_on h1 rfl rfl ?_
  first
    | refine L_v (opv_eql rfl rfl) rfl ?_
    | refine L_v (opv_eqlS rfl rfl) rfl ?_
    | refine L_v (opv_eqlNil rfl rfl) rfl ?_
    | refine L_v (opv_eqlB rfl rfl) rfl ?_
  refine L_v (opv_pick_t rfl h1 rfl) rfl ?_
  refine L_v (opv_move rfl) rfl ?_
  refine L_gt rfl rfl (fun h2 => ?_) (fun h2 => absurd rfl h2) (fun _ h => by cases h; rfl)
  refine L_v (opv_move rfl) rfl ?_
  refine L_gt_on h2 rfl rfl ?_
  first
    | refine L_v (opv_indexAddr rfl rfl (by omega)) rfl ?_
    | refine L_v (opv_indexAddrA rfl rfl (by omega)) rfl ?_
  refine L_gt_on h2 rfl rfl ?_
  first
    | refine L_v (opv_fieldAddr0 rfl) rfl ?_
    | refine L_v (opv_fieldAddr rfl) rfl ?_
  refine L_gt_on h2 rfl rfl ?_
  refine L_v (opv_load rfl (GoneP.reads (p := p) (x := (some (ad bb oo), ([⟨1, xs 80, 0, 100⟩, ⟨2, xs 30, 100, 150⟩] : List Sn).length)) (g := [⟨1, xs 80, 0, 100⟩, ⟨2, xs 30, 100, 150⟩]) (q := []) (cur := 150) (free := 150) (i := 0) (j := 2) (y := ⟨1, xs 80, 0, 100⟩) rfl rfl rfl)) rfl ?_
  refine L_gt_on h2 rfl rfl ?_
  first
    | refine L_v (opv_eql rfl rfl) rfl ?_
    | refine L_v (opv_eqlS rfl rfl) rfl ?_
    | refine L_v (opv_eqlNil rfl rfl) rfl ?_
    | refine L_v (opv_eqlB rfl rfl) rfl ?_
  refine L_v (opv_pick_t rfl h2 rfl) rfl ?_
  refine L_v (opv_move rfl) rfl ?_
  refine L_gt rfl rfl (fun h3 => ?_) (fun h3 => absurd rfl h3) (fun _ h => by cases h; rfl)
  refine L_v (opv_move rfl) rfl ?_
  refine L_gt_on h3 rfl rfl ?_
  first
    | refine L_v (opv_indexAddr rfl rfl (by omega)) rfl ?_
    | refine L_v (opv_indexAddrA rfl rfl (by omega)) rfl ?_
  refine L_gt_on h3 rfl rfl ?_
  first
    | refine L_v (opv_fieldAddr0 rfl) rfl ?_
    | refine L_v (opv_fieldAddr rfl) rfl ?_
  refine L_gt_on h3 rfl rfl ?_
  refine L_v (opv_load rfl (GoneP.reads (p := p) (x := (some (ad bb oo), ([⟨1, xs 80, 0, 100⟩, ⟨2, xs 30, 100, 150⟩] : List Sn).length)) (g := [⟨1, xs 80, 0, 100⟩, ⟨2, xs 30, 100, 150⟩]) (q := []) (cur := 150) (free := 150) (i := 0) (j := 3) (y := ⟨1, xs 80, 0, 100⟩) rfl rfl rfl)) rfl ?_
  refine L_gt_on h3 rfl rfl ?_
  first
    | refine L_v (opv_eql rfl rfl) rfl ?_
    | refine L_v (opv_eqlS rfl rfl) rfl ?_
    | refine L_v (opv_eqlNil rfl rfl) rfl ?_
    | refine L_v (opv_eqlB rfl rfl) rfl ?_
  refine L_v (opv_pick_t rfl h3 rfl) rfl ?_
  refine L_v (opv_move rfl) rfl ?_
  refine L_gt rfl rfl (fun h4 => ?_) (fun h4 => absurd rfl h4) (fun _ h => by cases h; rfl)
  refine L_v (opv_move rfl) rfl ?_
  refine L_gt_on h4 rfl rfl ?_
  first
    | refine L_v (opv_indexAddr rfl rfl (by omega)) rfl ?_
    | refine L_v (opv_indexAddrA rfl rfl (by omega)) rfl ?_
  refine L_gt_on h4 rfl rfl ?_
  first
    | refine L_v (opv_fieldAddr0 rfl) rfl ?_
    | refine L_v (opv_fieldAddr rfl) rfl ?_
  refine L_gt_on h4 rfl rfl ?_
  refine L_v (opv_load rfl (GoneP.reads (p := p) (x := (some (ad bb oo), ([⟨1, xs 80, 0, 100⟩, ⟨2, xs 30, 100, 150⟩] : List Sn).length)) (g := [⟨1, xs 80, 0, 100⟩, ⟨2, xs 30, 100, 150⟩]) (q := []) (cur := 150) (free := 150) (i := 1) (j := 2) (y := ⟨2, xs 30, 100, 150⟩) rfl rfl rfl)) rfl ?_
  refine L_gt_on h4 rfl rfl ?_
  first
    | refine L_v (opv_eql rfl rfl) rfl ?_
    | refine L_v (opv_eqlS rfl rfl) rfl ?_
    | refine L_v (opv_eqlNil rfl rfl) rfl ?_
    | refine L_v (opv_eqlB rfl rfl) rfl ?_
  refine L_v (opv_pick_t rfl h4 rfl) rfl ?_
  refine L_v (opv_move rfl) rfl ?_
  refine L_gt rfl rfl (fun h5 => ?_) (fun h5 => absurd rfl h5) (fun _ h => by cases h; rfl)
  refine L_v (opv_move rfl) rfl ?_
  refine L_gt_on h5 rfl rfl ?_
  first
    | refine L_v (opv_indexAddr rfl rfl (by omega)) rfl ?_
    | refine L_v (opv_indexAddrA rfl rfl (by omega)) rfl ?_
  refine L_gt_on h5 rfl rfl ?_
  first
    | refine L_v (opv_fieldAddr0 rfl) rfl ?_
    | refine L_v (opv_fieldAddr rfl) rfl ?_
  refine L_gt_on h5 rfl rfl ?_
  refine L_v (opv_load rfl (GoneP.reads (p := p) (x := (some (ad bb oo), ([⟨1, xs 80, 0, 100⟩, ⟨2, xs 30, 100, 150⟩] : List Sn).length)) (g := [⟨1, xs 80, 0, 100⟩, ⟨2, xs 30, 100, 150⟩]) (q := []) (cur := 150) (free := 150) (i := 1) (j := 3) (y := ⟨2, xs 30, 100, 150⟩) rfl rfl rfl)) rfl ?_
  refine L_gt_on h5 rfl rfl ?_
  first
    | refine L_v (opv_eql rfl rfl) rfl ?_
    | refine L_v (opv_eqlS rfl rfl) rfl ?_
    | refine L_v (opv_eqlNil rfl rfl) rfl ?_
    | refine L_v (opv_eqlB rfl rfl) rfl ?_
  refine L_v (opv_pick_t rfl h5 rfl) rfl ?_
  refine L_v (opv_assign rfl) rfl ?_
  refine L_nil ?_
  refine K_then ?_
  refine J_ret ?_
  exact K_ret1 rfl rfl () trivial (rfl) (Ent.trans Ent.drop (Ent.of (emp_sep _).symm))

theorem Offer_nil (now id : Int) (text : ByteArray) : FSpec Try.prog 19 #[.pointer none, .int .i64 now, .int .i64 id, .string text] (emp) (fun _ : Unit => True) (fun _ => .int .i64 2) (fun _ => emp) := by
  refine FSpec.enter' Try.func19 rfl Try.ntmps19 rfl fun σ F => ?_
  refine J_seq ?_
  refine J_region ?_
  refine L_v (opv_assign rfl) rfl ?_
  refine L_nil ?_
  refine K_then ?_
  refine J_seq ?_
  refine J_region ?_
  refine L_v (opv_move rfl) rfl ?_
  refine L_v (opv_move rfl) rfl ?_
  refine L_x rfl (opx_call0 (timely_nil now) rfl rfl rfl) (fun _ _ => ?_)
  refine L_emp ?_
  refine L_v (opv_assign rfl) rfl ?_
  refine L_nil ?_
  refine K_then ?_
  refine J_seq ?_
  refine J_block ?_
  refine J_seq ?_
  refine J_region ?_
  refine L_v (opv_move rfl) rfl ?_
  first
    | refine L_v (opv_neq rfl rfl) rfl ?_
    | refine L_v (opv_neqS rfl rfl) rfl ?_
    | refine L_v (opv_neqNil rfl rfl) rfl ?_
    | refine L_v (opv_neqB rfl rfl) rfl ?_
  refine L_v (opv_assign rfl) rfl ?_
  refine L_nil ?_
  refine K_then ?_
  refine J_cond rfl (fun h1 => ?_) (fun h1 => absurd (show (2 : Int) ≠ 0 by decide) h1)
  refine J_seq ?_
  refine J_region ?_
  refine L_v (opv_move rfl) rfl ?_
  refine L_v (opv_assign rfl) rfl ?_
  refine L_nil ?_
  refine K_then ?_
  refine J_ret ?_
  refine K_block_ret ?_
  refine K_then_ret ?_
  exact K_ret1 rfl rfl () trivial (rfl) (Ent.refl _)

theorem MuxNil_law (W : World) (now : Int) (s : ByteArray) : FSpec Try.prog 8 #[.int .i64 now, .string s] (old W) (fun _ : Unit => True) (fun _ => .bool true) (fun _ => old W) := by
  refine FSpec.enter' Try.func8 rfl Try.ntmps8 rfl fun σ F => ?_
  refine J_seq ?_
  refine J_region ?_
  refine L_v (opv_assign rfl) rfl ?_
  refine L_nil ?_
  refine K_then ?_
  refine J_seq ?_
  refine J_seq ?_
  refine J_region ?_
  refine L_v (opv_move rfl) rfl ?_
  first
    | refine L_v (opv_lenL rfl) rfl ?_
    | refine L_v (opv_lenS rfl) rfl ?_
  refine L_v (opv_gtr rfl rfl) rfl ?_
  refine L_nil ?_
  refine K_then ?_
  refine J_cond rfl (fun h1 => ?_) (fun h1 => ?_)
  · refine J_seq ?_
    refine J_region ?_
    refine L_x rfl (opx_call0 (awake_spec) rfl rfl rfl) (fun _ _ => ?_)
    refine L_emp ?_
    refine L_v (opv_assign rfl) rfl ?_
    refine L_nil ?_
    refine K_then ?_
    refine J_ret ?_
    refine K_then_ret ?_
    exact K_ret1 rfl rfl () trivial (rfl) (Ent.refl _)
  · refine J_skip ?_
    refine K_then ?_
    refine J_seq ?_
    refine J_region ?_
    refine L_v (opv_assign rfl) rfl ?_
    refine L_nil ?_
    refine K_then ?_
    refine J_seq ?_
    refine J_region ?_
    refine L_v (opv_move rfl) rfl ?_
    refine L_v (opv_move rfl) rfl ?_
    refine L_x rfl (opx_call0 (Pass_nil now) rfl rfl rfl) (fun _ _ => ?_)
    refine L_emp ?_
    refine L_v (opv_move rfl) rfl ?_
    refine L_v (opv_extract rfl rfl) rfl ?_
    refine L_v (opv_extract rfl rfl) rfl ?_
    refine L_v (opv_assign rfl) rfl ?_
    refine L_v (opv_assign rfl) rfl ?_
    refine L_nil ?_
    refine K_then ?_
    refine J_seq ?_
    refine J_region ?_
    refine L_v (opv_move rfl) rfl ?_
    refine L_v (opv_move rfl) rfl ?_
    refine L_v (opv_move rfl) rfl ?_
    refine L_v (opv_move rfl) rfl ?_
    refine L_x rfl (opx_call0 (Offer_nil now now s) rfl rfl rfl) (fun _ _ => ?_)
    refine L_emp ?_
    first
      | refine L_v (opv_eql rfl rfl) rfl ?_
      | refine L_v (opv_eqlS rfl rfl) rfl ?_
      | refine L_v (opv_eqlNil rfl rfl) rfl ?_
      | refine L_v (opv_eqlB rfl rfl) rfl ?_
    refine L_v (opv_move rfl) rfl ?_
    refine L_gt rfl rfl (fun h2 => ?_) (fun h2 => absurd rfl h2) (fun _ h => by cases h; rfl)
    refine L_v (opv_move rfl) rfl ?_
    refine L_gt_on h2 rfl rfl ?_
    first
      | refine L_v (opv_lenL rfl) rfl ?_
      | refine L_v (opv_lenS rfl) rfl ?_
    refine L_gt_on h2 rfl rfl ?_
    first
      | refine L_v (opv_eql rfl rfl) rfl ?_
      | refine L_v (opv_eqlS rfl rfl) rfl ?_
      | refine L_v (opv_eqlNil rfl rfl) rfl ?_
      | refine L_v (opv_eqlB rfl rfl) rfl ?_
    refine L_v (opv_pick_t rfl h2 rfl) rfl ?_
    refine L_v (opv_move rfl) rfl ?_
    refine L_gt rfl rfl (fun h3 => ?_) (fun h3 => absurd rfl h3) (fun _ h => by cases h; rfl)
    refine L_v (opv_move rfl) rfl ?_
    refine L_gt_on h3 rfl rfl ?_
    first
      | refine L_v (opv_eql rfl rfl) rfl ?_
      | refine L_v (opv_eqlS rfl rfl) rfl ?_
      | refine L_v (opv_eqlNil rfl rfl) rfl ?_
      | refine L_v (opv_eqlB rfl rfl) rfl ?_
    refine L_v (opv_pick_t rfl h3 rfl) rfl ?_
    refine L_v (opv_move rfl) rfl ?_
    refine L_gt rfl rfl (fun h4 => ?_) (fun h4 => absurd rfl h4) (fun _ h => by cases h; rfl)
    refine L_v (opv_move rfl) rfl ?_
    refine L_gt_on h4 rfl rfl ?_
    refine L_x rfl (opx_call0 (Waits_nil) rfl rfl rfl) (fun _ _ => ?_)
    refine L_emp ?_
    refine L_gt_on h4 rfl rfl ?_
    first
      | refine L_v (opv_eql rfl rfl) rfl ?_
      | refine L_v (opv_eqlS rfl rfl) rfl ?_
      | refine L_v (opv_eqlNil rfl rfl) rfl ?_
      | refine L_v (opv_eqlB rfl rfl) rfl ?_
    refine L_v (opv_pick_t rfl h4 rfl) rfl ?_
    refine L_v (opv_move rfl) rfl ?_
    refine L_gt rfl rfl (fun h5 => ?_) (fun h5 => absurd rfl h5) (fun _ h => by cases h; rfl)
    refine L_v (opv_move rfl) rfl ?_
    refine L_gt_on h5 rfl rfl ?_
    refine L_x rfl (opx_call0 (Free_nil) rfl rfl rfl) (fun _ _ => ?_)
    refine L_emp ?_
    refine L_gt_on h5 rfl rfl ?_
    first
      | refine L_v (opv_eql rfl rfl) rfl ?_
      | refine L_v (opv_eqlS rfl rfl) rfl ?_
      | refine L_v (opv_eqlNil rfl rfl) rfl ?_
      | refine L_v (opv_eqlB rfl rfl) rfl ?_
    refine L_v (opv_pick_t rfl h5 rfl) rfl ?_
    refine L_v (opv_move rfl) rfl ?_
    refine L_gt rfl rfl (fun h6 => ?_) (fun h6 => absurd rfl h6) (fun _ h => by cases h; rfl)
    refine L_x rfl (opx_call0 (awake_spec) rfl rfl rfl) (fun _ _ => ?_)
    refine L_emp ?_
    refine L_v (opv_pick_t rfl h6 rfl) rfl ?_
    refine L_v (opv_assign rfl) rfl ?_
    refine L_nil ?_
    refine K_then ?_
    refine J_ret ?_
    exact K_ret1 rfl rfl () trivial (rfl) (Ent.refl _)

end Go.Proofs.Ytpnpdliimidoaaa
namespace Go.Proofs.Ytpnpdliimidoaaa.muxNil
open Go.ChangeShapes Go.WideShapes Go.ChangeAt Go.RowKit Go.SLA
open Go.ChangeMaps (open_string shut_string)
set_option linter.unusedVariables false
theorem own : ownKnob Try.prog.godebug = none := by kernel_rfl
theorem laidOut : laidOutB Try.prog = true := by kernel_rfl
set_option maxRecDepth 100000 in
theorem lifted (os : Os) (started : os.Started) (H : Type) (enc : TypeId × Value → H) :
    ReturnsInHanded {} Try.checked os 8 .any (Rows.muxNilSpec.pre6 enc Try.prog Try.f8 Rows.muxNilRow.domain false) (Rows.muxNilSpec.post enc Try.prog Try.f8 false true false false) := by
  refine returnsInHanded_of_change_sized (C := Try.checked) own started (by kernel_rfl) Try.func8
    (ChangeSpec.witness6 (enc := enc) (C := Try.checked) false ⟨#[], #[.int .i64 0, .string ByteArray.empty], []⟩ 8 (by kernel_rfl) (by kernel_rfl) (by kernel_rfl) (by kernel_rfl)) ?_
  intro W base args ds gs before hval0 hW hcnd hsz0 _
  have hsz : (DataW.weightsEach Try.prog (Try.f8.params.toList ++ Rows.muxNilSpec.plain.varTypes Try.prog) (ds ++ gs)).all (· ≤ reachBytes) = true := hsz0
  have hval : ∀ (j : Nat) t v, Try.f8.params[j]? = some t → args[j]? = some v → Value.okWide Try.prog W .any base t v := hval0
  have hW' := hW
  obtain ⟨p, q, hA0, hV, rfl, hfz, hnd⟩ := hW
  have hA : DataW.TrodAll enc Try.prog W 0 (fun _ => true) true Try.f8.params.toList args.toList ds p := hA0
  rw [Try.params8] at hA hval hsz
  obtain ⟨v0, vs0, d0, ds0, p0, q0, hargs, rfl, rfl, h0, r0⟩ := trodAll_cons hA
  obtain ⟨v1, vs1, d1, ds1, p1, q1, rfl, rfl, rfl, h1, r1⟩ := trodAll_cons r0
  obtain ⟨rfl, rfl, rfl⟩ := trodAll_nil r1
  obtain rfl : args = #[v0, v1] := by cases args; simp_all
  obtain ⟨rfl, rfl⟩ := trodVars_none hV
  have k0 := h0
  have lt0 : ∀ x ∈ p0, x.block < W.heap.size := by obtain ⟨m, hm⟩ := k0; exact DataW.trod_lt m _ _ _ hm
  obtain ⟨a0, rfl, rfl, rfl, w0⟩ := open_int Try.underlying3 (hval 0 3 v0 rfl rfl) h0
  have k1 := h1
  have lt1 : ∀ x ∈ p1, x.block < W.heap.size := by obtain ⟨m, hm⟩ := k1; exact DataW.trod_lt m _ _ _ hm
  obtain ⟨a1, rfl, rfl, rfl, y1⟩ := open_string Try.underlying9 (hval 1 9 v1 rfl rfl) h1
  have z1 := sized_string hsz (j := 1) (t := 9) rfl rfl
  rw [Array.length_toList] at z1
  clear hA0 hval0 hsz0 hsz
  refine (FSpec.law (MuxNil_law W a0 a1)).mono fun e W' ⟨he, bel⟩ => ?_
  subst he
  exact ⟨_, rfl, _, _, _, [], _, [], hW', trodAll_mk1 (shut_bool Try.underlying4 _), (trodAll_cons_mk (Below.trod laidOut (by kernel_rfl) (of_decide_eq_true (by kernel_rfl)) k0 bel lt0) (trodAll_cons_mk (Below.trod laidOut (by kernel_rfl) (of_decide_eq_true (by kernel_rfl)) k1 bel lt1) trodAll_mk0)), rfl, bel.frame _, fun h => by cases h⟩
theorem over : Rows.muxNilRow.holds Try.pinned (OpenSpec.ofChange Rows.muxNilSpec) :=
  OpenClaim.holds_of_wide 8 Try.f8 rfl rfl rfl rfl rfl rfl rfl ⟨rfl, rfl, rfl, rfl, rfl⟩ rfl rfl rfl rfl rfl (by kernel_rfl) Try.func8 (by kernel_rfl)
    (of_decide_eq_true (by kernel_rfl)) (by unfold Func.isWrapper; first | (rw [if_pos (by decide +kernel)]; kernel_rfl) | (rw [if_neg (by decide +kernel)]; exact ⟨rfl, rfl⟩))
    (fun os started H enc _ => lifted os started H enc)
end Go.Proofs.Ytpnpdliimidoaaa.muxNil
namespace Go.Proofs.Ytpnpdliimidoaaa
theorem muxNil_holds : Rows.MuxNilSaid := muxNil.over
#print axioms muxNil_holds
end Go.Proofs.Ytpnpdliimidoaaa
namespace Go.Proofs.Ytpnpdliimidoaaa
open Go.SLA
end Go.Proofs.Ytpnpdliimidoaaa
