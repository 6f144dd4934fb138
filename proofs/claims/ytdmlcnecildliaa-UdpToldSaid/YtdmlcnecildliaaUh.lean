/- The laws UdpCut and UdpNone of the package pitotlaw06 hold for every input: a datagram of which the end is missing, or behind which something is, is none; one without a sum is taken from any addresses. No condition. -/
import Derived.Test.YtdmlcnecildliaaUg
import Derived.Test.YtdmlcnecildliaaH
namespace Go.Proofs.Ytdmlcnecildliaa
open Go.SLA
set_option maxRecDepth 100000
set_option linter.unusedVariables false
set_option linter.unusedSimpArgs false
attribute [local irreducible] J L K QL Rg FSpec OpV OpX Rd Back
attribute [local irreducible] be usum ones sumT word nextC datag encU decU withSum
theorem UdpCut_law (W : World) (x : En) (t : ByteArray) (k : Int) (hx : okEn x) : FSpec Try.prog 11 #[.agg (encEn x).toArray, .string t, .int .i64 k] (old W) (fun _ : Unit => True) (fun _ => .bool true) (fun _ => old W) := by
  by_cases h : 2000 < t.size
  · exact UC_big W x t k h
  · exact UC_ok W x t k hx (by omega)

end Go.Proofs.Ytdmlcnecildliaa
namespace Go.Proofs.Ytdmlcnecildliaa.udpCut
open Go.ChangeShapes Go.WideShapes Go.ChangeAt Go.RowKit Go.SLA
open Go.ChangeMaps (open_string shut_string)
set_option linter.unusedVariables false
theorem own : ownKnob Try.prog.godebug = none := by kernel_rfl
theorem laidOut : laidOutB Try.prog = true := by kernel_rfl
set_option maxRecDepth 100000 in
theorem lifted (os : Os) (started : os.Started) (H : Type) (enc : TypeId × Value → H) :
    ReturnsInHanded {} Try.checked os 11 .any (Rows.udpCutSpec.pre6 enc Try.prog Try.f11 Rows.udpCutRow.domain false) (Rows.udpCutSpec.post enc Try.prog Try.f11 false true false false) := by
  refine returnsInHanded_of_change_sized (C := Try.checked) own started (by kernel_rfl) Try.func11
    (ChangeSpec.witness6 (enc := enc) (C := Try.checked) false ⟨#[], #[.agg (encEn en0).toArray, .string ByteArray.empty, .int .i64 0], []⟩ 8 (by kernel_rfl) (by kernel_rfl) (by kernel_rfl) (by kernel_rfl)) ?_
  intro W base args ds gs before hval0 hW hcnd hsz0 _
  have hsz : (DataW.weightsEach Try.prog (Try.f11.params.toList ++ Rows.udpCutSpec.plain.varTypes Try.prog) (ds ++ gs)).all (· ≤ reachBytes) = true := hsz0
  have hval : ∀ (j : Nat) t v, Try.f11.params[j]? = some t → args[j]? = some v → Value.okWide Try.prog W .any base t v := hval0
  have hW' := hW
  obtain ⟨p, q, hA0, hV, rfl, hfz, hnd⟩ := hW
  have hA : DataW.TrodAll enc Try.prog W 0 (fun _ => true) true Try.f11.params.toList args.toList ds p := hA0
  rw [Try.params11] at hA hval hsz
  obtain ⟨v0, vs0, d0, ds0, p0, q0, hargs, rfl, rfl, h0, r0⟩ := trodAll_cons hA
  obtain ⟨v1, vs1, d1, ds1, p1, q1, rfl, rfl, rfl, h1, r1⟩ := trodAll_cons r0
  obtain ⟨v2, vs2, d2, ds2, p2, q2, rfl, rfl, rfl, h2, r2⟩ := trodAll_cons r1
  obtain ⟨rfl, rfl, rfl⟩ := trodAll_nil r2
  obtain rfl : args = #[v0, v1, v2] := by cases args; simp_all
  obtain ⟨rfl, rfl⟩ := trodVars_none hV
  have k0 := h0
  have lt0 : ∀ x ∈ p0, x.block < W.heap.size := by obtain ⟨m, hm⟩ := k0; exact DataW.trod_lt m _ _ _ hm
  obtain ⟨l0, rfl, g0⟩ := open_flat (D := 5) (ks := ksEn) (by kernel_rfl) (by kernel_rfl) (hval 0 29 v0 rfl rfl) h0
  obtain ⟨x0, rfl, ok0⟩ := decEn l0 g0
  have k1 := h1
  have lt1 : ∀ x ∈ p1, x.block < W.heap.size := by obtain ⟨m, hm⟩ := k1; exact DataW.trod_lt m _ _ _ hm
  obtain ⟨a1, rfl, rfl, rfl, y1⟩ := open_string Try.underlying9 (hval 1 9 v1 rfl rfl) h1
  have z1 := sized_string hsz (j := 1) (t := 9) rfl rfl
  rw [Array.length_toList] at z1
  have k2 := h2
  have lt2 : ∀ x ∈ p2, x.block < W.heap.size := by obtain ⟨m, hm⟩ := k2; exact DataW.trod_lt m _ _ _ hm
  obtain ⟨a2, rfl, rfl, rfl, w2⟩ := open_int Try.underlying3 (hval 2 3 v2 rfl rfl) h2
  clear hA0 hval0 hsz0 hsz
  refine (FSpec.law (UdpCut_law W x0 a1 a2 ok0)).mono fun e W' ⟨he, bel⟩ => ?_
  subst he
  exact ⟨_, rfl, _, _, _, [], _, [], hW', trodAll_mk1 (shut_bool Try.underlying4 _), (trodAll_cons_mk (Below.trod laidOut (by kernel_rfl) (of_decide_eq_true (by kernel_rfl)) k0 bel lt0) (trodAll_cons_mk (Below.trod laidOut (by kernel_rfl) (of_decide_eq_true (by kernel_rfl)) k1 bel lt1) (trodAll_cons_mk (Below.trod laidOut (by kernel_rfl) (of_decide_eq_true (by kernel_rfl)) k2 bel lt2) trodAll_mk0))), rfl, bel.frame _, fun h => by cases h⟩
theorem over : Rows.udpCutRow.holds Try.pinned (OpenSpec.ofChange Rows.udpCutSpec) :=
  OpenClaim.holds_of_wide 11 Try.f11 rfl rfl rfl rfl rfl rfl rfl ⟨rfl, rfl, rfl, rfl, rfl⟩ rfl rfl rfl rfl rfl (by kernel_rfl) Try.func11 (by kernel_rfl)
    (of_decide_eq_true (by kernel_rfl)) (by unfold Func.isWrapper; first | (rw [if_pos (by decide +kernel)]; kernel_rfl) | (rw [if_neg (by decide +kernel)]; exact ⟨rfl, rfl⟩))
    (fun os started H enc _ => lifted os started H enc)
end Go.Proofs.Ytdmlcnecildliaa.udpCut
namespace Go.Proofs.Ytdmlcnecildliaa
theorem udpCut_holds : Rows.UdpCutSaid := udpCut.over
#print axioms udpCut_holds
end Go.Proofs.Ytdmlcnecildliaa
namespace Go.Proofs.Ytdmlcnecildliaa
open Go.SLA
set_option maxRecDepth 100000
attribute [local irreducible] be usum ones sumT word nextC datag encU decU withSum J L K QL Rg FSpec OpV OpX Rd Back
structure Ip2 where
  a0 : Int
  a1 : Int
  a2 : Int
  a3 : Int
  b0 : Int
  b1 : Int
  b2 : Int
  b3 : Int
def encIp2 (x : Ip2) : List Value := [.int .u8 x.a0, .int .u8 x.a1, .int .u8 x.a2, .int .u8 x.a3, .int .u8 x.b0, .int .u8 x.b1, .int .u8 x.b2, .int .u8 x.b3]
def okIp2 (x : Ip2) : Prop := (Lit.int .u8 x.a0).wf = true ∧ (Lit.int .u8 x.a1).wf = true ∧ (Lit.int .u8 x.a2).wf = true ∧ (Lit.int .u8 x.a3).wf = true ∧ (Lit.int .u8 x.b0).wf = true ∧ (Lit.int .u8 x.b1).wf = true ∧ (Lit.int .u8 x.b2).wf = true ∧ (Lit.int .u8 x.b3).wf = true
abbrev ksIp2 : List CK := [.int .u8, .int .u8, .int .u8, .int .u8, .int .u8, .int .u8, .int .u8, .int .u8]
theorem encIp2_len (x : Ip2) : (encIp2 x).length = 8 := rfl
theorem decIp2 (cs : List Value) (h : Kinds ksIp2 cs) : ∃ x, cs = encIp2 x ∧ okIp2 x := by
  obtain ⟨hl, hk⟩ := h
  obtain ⟨v0, g0, x0, rfl, w0⟩ := hk 0 _ rfl
  obtain ⟨v1, g1, x1, rfl, w1⟩ := hk 1 _ rfl
  obtain ⟨v2, g2, x2, rfl, w2⟩ := hk 2 _ rfl
  obtain ⟨v3, g3, x3, rfl, w3⟩ := hk 3 _ rfl
  obtain ⟨v4, g4, x4, rfl, w4⟩ := hk 4 _ rfl
  obtain ⟨v5, g5, x5, rfl, w5⟩ := hk 5 _ rfl
  obtain ⟨v6, g6, x6, rfl, w6⟩ := hk 6 _ rfl
  obtain ⟨v7, g7, x7, rfl, w7⟩ := hk 7 _ rfl
  match cs, hl with
  | [c0, c1, c2, c3, c4, c5, c6, c7], _ =>
    simp only [List.getElem?_cons_zero, List.getElem?_cons_succ, Option.some.injEq] at g0 g1 g2 g3 g4 g5 g6 g7
    exact ⟨⟨x0, x1, x2, x3, x4, x5, x6, x7⟩, by simp only [encIp2, *], ⟨w0, w1, w2, w3, w4, w5, w6, w7⟩⟩


def Ip2.en (y : Ip2) : En := ⟨y.a0, y.a1, y.a2, y.a3, y.b0, y.b1, y.b2, y.b3, 0, 0⟩
theorem Ip2.en_ok {y : Ip2} (h : okIp2 y) : okEn y.en := by
  obtain ⟨h0, h1, h2, h3, g0, g1, g2, g3⟩ := h
  exact ⟨h0, h1, h2, h3, g0, g1, g2, g3, wfn (n := 0) (by decide), wfn (n := 0) (by decide)⟩
theorem datag_summed (x : En) (t : ByteArray) : (datag x t).extract 0 6 ++ ⟨#[0, 0]⟩ ++ (datag x t).extract 8 (datag x t).size = withSum x ⟨#[0, 0]⟩ t := by
  have := ws_summed (x := x) (t := t) (be_size (usum x.a x.b (withSum x ⟨#[0, 0]⟩ t)) 2)
  rw [datag_eq]
  exact this

theorem UN_big (W : World) (x : En) (t : ByteArray) (y : Ip2) (h : 2000 < t.size) : FSpec Try.prog 12 #[.agg (encEn x).toArray, .string t, .agg (encIp2 y).toArray] (old W) (fun _ : Unit => True) (fun _ => .bool true) (fun _ => old W) := by
  refine FSpec.enter' Try.func12 rfl Try.ntmps12 rfl fun σ F => ?_
  refine J_seq ?_
  refine J_region ?_
  refine L_x rfl (opx_box (l := [.int .u8 x.a0, .int .u8 x.a1, .int .u8 x.a2, .int .u8 x.a3, .int .u8 x.b0, .int .u8 x.b1, .int .u8 x.b2, .int .u8 x.b3, .int .i64 x.f, .int .i64 x.g]) rfl rfl) (fun b3 _ => ?_)
  refine L_x rfl (opx_box (l := [.int .u8 y.a0, .int .u8 y.a1, .int .u8 y.a2, .int .u8 y.a3, .int .u8 y.b0, .int .u8 y.b1, .int .u8 y.b2, .int .u8 y.b3]) rfl rfl) (fun b5 _ => ?_)
  refine L_v (opv_assign rfl) rfl ?_
  refine L_nil ?_
  refine K_then ?_
  refine J_seq ?_
  refine J_seq ?_
  refine J_region ?_
  refine L_v (opv_move rfl) rfl ?_
  first
    | refine L_v (opv_lenL rfl) rfl ?_
    | refine L_v (opv_lenS rfl) rfl ?_
  refine L_v ((opv_gtr rfl rfl).bool_t (by omega)) rfl ?_
  refine L_nil ?_
  refine K_then ?_
  refine J_cond_true rfl ?_
  refine J_seq ?_
  refine J_region ?_
  refine L_x rfl (opx_call0 (uawake_spec) rfl rfl rfl) (fun _ _ => ?_)
  refine L_emp ?_
  refine L_v (opv_assign rfl) rfl ?_
  refine L_nil ?_
  refine K_then ?_
  refine J_ret ?_
  refine K_then_ret ?_
  exact K_ret1 rfl rfl () trivial (rfl) Ent.take

theorem UD_none2 (x : En) (y : Ip2) (t : ByteArray) (hy : okIp2 y) (h : portsB x) (ht : t.size ≤ 8192) : FSpec Try.prog 34 #[.agg [.int .u8 y.a0, .int .u8 y.a1, .int .u8 y.a2, .int .u8 y.a3].toArray, .agg [.int .u8 y.b0, .int .u8 y.b1, .int .u8 y.b2, .int .u8 y.b3].toArray, .string (withSum x ⟨#[0, 0]⟩ t)] emp (fun _ : Unit => True) (fun _ => .tuple #[.agg [.int .u8 y.a0, .int .u8 y.a1, .int .u8 y.a2, .int .u8 y.a3, .int .u8 y.b0, .int .u8 y.b1, .int .u8 y.b2, .int .u8 y.b3, .int .i64 x.f, .int .i64 x.g].toArray, .string t, .int .i64 0]) (fun _ => emp) := by
  have hu : (⟨#[0, 0]⟩ : ByteArray).size = 2 := rfl
  have hyo := Ip2.en_ok hy
  have := UDecode_spec y.en (withSum x ⟨#[0, 0]⟩ t) hyo (by rw [ws_size hu]; omega)
  rw [ws_decU hu h ht y.en (.inl (by unfold word; rfl))] at this
  unfold portsB at h
  have e1 : ((x.f.toNat : Nat) : Int) = x.f := by omega
  have e2 : ((x.g.toNat : Nat) : Int) = x.g := by omega
  unfold En.at at this
  rw [e1, e2] at this
  exact this

theorem UN_ok (W : World) (x : En) (t : ByteArray) (y : Ip2) (hx : okEn x) (hy : okIp2 y) (h : t.size ≤ 2000) : FSpec Try.prog 12 #[.agg (encEn x).toArray, .string t, .agg (encIp2 y).toArray] (old W) (fun _ : Unit => True) (fun _ => .bool true) (fun _ => old W) := by
  refine FSpec.enter' Try.func12 rfl Try.ntmps12 rfl fun σ F => ?_
  refine J_seq ?_
  refine J_region ?_
  refine L_x rfl (opx_box (l := [.int .u8 x.a0, .int .u8 x.a1, .int .u8 x.a2, .int .u8 x.a3, .int .u8 x.b0, .int .u8 x.b1, .int .u8 x.b2, .int .u8 x.b3, .int .i64 x.f, .int .i64 x.g]) rfl rfl) (fun b3 _ => ?_)
  refine L_x rfl (opx_box (l := [.int .u8 y.a0, .int .u8 y.a1, .int .u8 y.a2, .int .u8 y.a3, .int .u8 y.b0, .int .u8 y.b1, .int .u8 y.b2, .int .u8 y.b3]) rfl rfl) (fun b5 _ => ?_)
  refine L_v (opv_assign rfl) rfl ?_
  refine L_nil ?_
  refine K_then ?_
  refine J_seq ?_
  refine J_seq ?_
  refine J_region ?_
  refine L_v (opv_move rfl) rfl ?_
  first
    | refine L_v (opv_lenL rfl) rfl ?_
    | refine L_v (opv_lenS rfl) rfl ?_
  refine L_v ((opv_gtr rfl rfl).bool_f (by omega)) rfl ?_
  refine L_nil ?_
  refine K_then ?_
  refine J_cond_false rfl ?_
  refine J_skip ?_
  refine K_then ?_
  refine J_seq ?_
  refine J_region ?_
  refine L_v (opv_loadS rfl) rfl ?_
  refine L_v (opv_move rfl) rfl ?_
  refine L_x rfl (opx_call0 (Encode_any x t hx) rfl rfl rfl) (fun _ _ => ?_)
  refine L_emp ?_
  refine L_v (opv_move rfl) rfl ?_
  refine L_v (opv_extract rfl rfl) rfl ?_
  refine L_v (opv_extract rfl rfl) rfl ?_
  refine L_v (opv_assign rfl) rfl ?_
  refine L_v (opv_assign rfl) rfl ?_
  refine L_nil ?_
  refine K_then ?_
  refine J_seq ?_
  refine J_seq ?_
  refine J_region ?_
  refine L_v (opv_move rfl) rfl ?_
  first
    | refine L_v (opv_neq rfl rfl) rfl ?_
    | refine L_v (opv_neqS rfl rfl) rfl ?_
    | refine L_v (opv_neqNil rfl rfl) rfl ?_
    | refine L_v (opv_neqB rfl rfl) rfl ?_
  refine L_nil ?_
  refine K_then ?_
  refine J_cond rfl (fun h1 => ?_) (fun h1 => ?_)
  · refine J_seq ?_
    refine J_region ?_
    refine L_v (opv_move rfl) rfl ?_
    refine L_v ((opv_eqlS rfl rfl).bool_t (encU_bad (by assumption))) rfl ?_
    refine L_v (opv_move rfl) rfl ?_
    refine L_gon rfl rfl rfl ?_
    refine L_x rfl (opx_call0 (uawake_spec) rfl rfl rfl) (fun _ _ => ?_)
    refine L_emp ?_
    first
      | refine L_v (opv_pick_tt rfl rfl) rfl ?_
      | refine L_v (opv_pick_ff rfl rfl) rfl ?_
      | refine L_v (opv_pick rfl rfl rfl) rfl ?_
    refine L_v (opv_assign rfl) rfl ?_
    refine L_nil ?_
    refine K_then ?_
    refine J_ret ?_
    refine K_then_ret ?_
    exact K_ret1 rfl rfl () trivial (rfl) Ent.take
  · obtain ⟨hn, hl, he⟩ := encU_ok h1
    have hds := datag_size x t
    have hz0 : (⟨#[0, 0]⟩ : ByteArray).size = 2 := rfl
    refine J_skip ?_
    refine K_then ?_
    refine J_seq ?_
    refine J_seq ?_
    rw [he]
    dsimp only
    refine J_region ?_
    refine L_v (opv_move rfl) rfl ?_
    first
      | refine L_v (opv_lenL rfl) rfl ?_
      | refine L_v (opv_lenS rfl) rfl ?_
    refine L_v ((opv_lss rfl rfl).bool_f (by omega)) rfl ?_
    refine L_nil ?_
    refine K_then ?_
    refine J_cond_false rfl ?_
    refine J_skip ?_
    refine K_then ?_
    refine J_seq ?_
    refine J_steps ((sep (cel b3 [.int .u8 x.a0, .int .u8 x.a1, .int .u8 x.a2, .int .u8 x.a3, .int .u8 x.b0, .int .u8 x.b1, .int .u8 x.b2, .int .u8 x.b3, .int .i64 x.f, .int .i64 x.g] 29) (cel b5 [.int .u8 y.a0, .int .u8 y.a1, .int .u8 y.a2, .int .u8 y.a3, .int .u8 y.b0, .int .u8 y.b1, .int .u8 y.b2, .int .u8 y.b3] 69))) ((sep (cel b3 [.int .u8 x.a0, .int .u8 x.a1, .int .u8 x.a2, .int .u8 x.a3, .int .u8 x.b0, .int .u8 x.b1, .int .u8 x.b2, .int .u8 x.b3, .int .i64 x.f, .int .i64 x.g] 29) (cel b5 [.int .u8 y.a0, .int .u8 y.a1, .int .u8 y.a2, .int .u8 y.a3, .int .u8 y.b0, .int .u8 y.b1, .int .u8 y.b2, .int .u8 y.b3] 69))) [] Try.mixed ?_
    refine R_pure 0 rfl (by kernel_rfl) (by kernel_rfl) (by kernel_rfl) (by kernel_rfl) (.inr ⟨_, Take.eq (A := (sep (cel b3 [.int .u8 x.a0, .int .u8 x.a1, .int .u8 x.a2, .int .u8 x.a3, .int .u8 x.b0, .int .u8 x.b1, .int .u8 x.b2, .int .u8 x.b3, .int .i64 x.f, .int .i64 x.g] 29) (cel b5 [.int .u8 y.a0, .int .u8 y.a1, .int .u8 y.a2, .int .u8 y.a3, .int .u8 y.b0, .int .u8 y.b1, .int .u8 y.b2, .int .u8 y.b3] 69)))⟩) ((opv_indexAddrA rfl rfl (by omega)).as (v' := .pointer (some (ad b5 0))) rfl) rfl ?_
    refine R_take 1 rfl (by kernel_rfl) (by kernel_rfl) (by kernel_rfl) (by kernel_rfl) (by kernel_rfl) (opv_loadS rfl) rfl ?_
    refine R_pure 2 rfl (by kernel_rfl) (by kernel_rfl) (by kernel_rfl) (by kernel_rfl) (.inr ⟨_, Take.eq (A := (sep (cel b3 [.int .u8 x.a0, .int .u8 x.a1, .int .u8 x.a2, .int .u8 x.a3, .int .u8 x.b0, .int .u8 x.b1, .int .u8 x.b2, .int .u8 x.b3, .int .i64 x.f, .int .i64 x.g] 29) (cel b5 [.int .u8 y.a0, .int .u8 y.a1, .int .u8 y.a2, .int .u8 y.a3, .int .u8 y.b0, .int .u8 y.b1, .int .u8 y.b2, .int .u8 y.b3] 69)))⟩) ((opv_indexAddrA rfl rfl (by omega)).as (v' := .pointer (some (ad b5 4))) rfl) rfl ?_
    refine R_take 3 rfl (by kernel_rfl) (by kernel_rfl) (by kernel_rfl) (by kernel_rfl) (by kernel_rfl) (opv_loadS rfl) rfl ?_
    refine R_pure 4 rfl (by kernel_rfl) (by kernel_rfl) (by kernel_rfl) (by kernel_rfl) (.inr ⟨_, Take.eq (A := (sep (cel b3 [.int .u8 x.a0, .int .u8 x.a1, .int .u8 x.a2, .int .u8 x.a3, .int .u8 x.b0, .int .u8 x.b1, .int .u8 x.b2, .int .u8 x.b3, .int .i64 x.f, .int .i64 x.g] 29) (cel b5 [.int .u8 y.a0, .int .u8 y.a1, .int .u8 y.a2, .int .u8 y.a3, .int .u8 y.b0, .int .u8 y.b1, .int .u8 y.b2, .int .u8 y.b3] 69)))⟩) (opv_move rfl) rfl ?_
    refine R_pure 5 rfl (by kernel_rfl) (by kernel_rfl) (by kernel_rfl) (by kernel_rfl) (.inr ⟨_, Take.eq (A := (sep (cel b3 [.int .u8 x.a0, .int .u8 x.a1, .int .u8 x.a2, .int .u8 x.a3, .int .u8 x.b0, .int .u8 x.b1, .int .u8 x.b2, .int .u8 x.b3, .int .i64 x.f, .int .i64 x.g] 29) (cel b5 [.int .u8 y.a0, .int .u8 y.a1, .int .u8 y.a2, .int .u8 y.a3, .int .u8 y.b0, .int .u8 y.b1, .int .u8 y.b2, .int .u8 y.b3] 69)))⟩) ((opv_sliceShi rfl rfl (by omega)).as (congrArg (fun k => Value.string ((datag x t).extract 0 k)) (show Int.toNat 6 = 6 from rfl))) rfl ?_
    refine R_pure 6 rfl (by kernel_rfl) (by kernel_rfl) (by kernel_rfl) (by kernel_rfl) (.inr ⟨_, Take.eq (A := (sep (cel b3 [.int .u8 x.a0, .int .u8 x.a1, .int .u8 x.a2, .int .u8 x.a3, .int .u8 x.b0, .int .u8 x.b1, .int .u8 x.b2, .int .u8 x.b3, .int .i64 x.f, .int .i64 x.g] 29) (cel b5 [.int .u8 y.a0, .int .u8 y.a1, .int .u8 y.a2, .int .u8 y.a3, .int .u8 y.b0, .int .u8 y.b1, .int .u8 y.b2, .int .u8 y.b3] 69)))⟩) (opv_addS rfl rfl (by rw [ext_size _ _ _ (by omega)]; decide)) rfl ?_
    refine R_pure 7 rfl (by kernel_rfl) (by kernel_rfl) (by kernel_rfl) (by kernel_rfl) (.inr ⟨_, Take.eq (A := (sep (cel b3 [.int .u8 x.a0, .int .u8 x.a1, .int .u8 x.a2, .int .u8 x.a3, .int .u8 x.b0, .int .u8 x.b1, .int .u8 x.b2, .int .u8 x.b3, .int .i64 x.f, .int .i64 x.g] 29) (cel b5 [.int .u8 y.a0, .int .u8 y.a1, .int .u8 y.a2, .int .u8 y.a3, .int .u8 y.b0, .int .u8 y.b1, .int .u8 y.b2, .int .u8 y.b3] 69)))⟩) (opv_move rfl) rfl ?_
    refine R_pure 8 rfl (by kernel_rfl) (by kernel_rfl) (by kernel_rfl) (by kernel_rfl) (.inr ⟨_, Take.eq (A := (sep (cel b3 [.int .u8 x.a0, .int .u8 x.a1, .int .u8 x.a2, .int .u8 x.a3, .int .u8 x.b0, .int .u8 x.b1, .int .u8 x.b2, .int .u8 x.b3, .int .i64 x.f, .int .i64 x.g] 29) (cel b5 [.int .u8 y.a0, .int .u8 y.a1, .int .u8 y.a2, .int .u8 y.a3, .int .u8 y.b0, .int .u8 y.b1, .int .u8 y.b2, .int .u8 y.b3] 69)))⟩) ((opv_sliceSlo rfl rfl (by omega)).as (congrArg (fun k => Value.string ((datag x t).extract k (datag x t).size)) (show Int.toNat 8 = 8 from rfl))) rfl ?_
    refine R_pure 9 rfl (by kernel_rfl) (by kernel_rfl) (by kernel_rfl) (by kernel_rfl) (.inr ⟨_, Take.eq (A := (sep (cel b3 [.int .u8 x.a0, .int .u8 x.a1, .int .u8 x.a2, .int .u8 x.a3, .int .u8 x.b0, .int .u8 x.b1, .int .u8 x.b2, .int .u8 x.b3, .int .i64 x.f, .int .i64 x.g] 29) (cel b5 [.int .u8 y.a0, .int .u8 y.a1, .int .u8 y.a2, .int .u8 y.a3, .int .u8 y.b0, .int .u8 y.b1, .int .u8 y.b2, .int .u8 y.b3] 69)))⟩) ((opv_addS rfl rfl (by rw [ByteArray.size_append, ext_size _ _ _ (by omega), ext_size _ _ _ (Nat.le_refl _), hz0]; omega)).as (congrArg Value.string (datag_summed x t))) rfl ?_
    refine R_all [10, 15] (by kernel_rfl) rfl fun i hi => ?_
    simp only [List.mem_cons, List.not_mem_nil, or_false] at hi
    rcases hi with rfl | rfl
    · refine ⟨_, _, _, _, _, rfl, rfl, (opx_call0 (UD_none2 x y t hy hn hl) rfl rfl rfl), fun _ _ => ⟨⟨_, Take.eq (A := (sep (cel b3 [.int .u8 x.a0, .int .u8 x.a1, .int .u8 x.a2, .int .u8 x.a3, .int .u8 x.b0, .int .u8 x.b1, .int .u8 x.b2, .int .u8 x.b3, .int .i64 x.f, .int .i64 x.g] 29) (cel b5 [.int .u8 y.a0, .int .u8 y.a1, .int .u8 y.a2, .int .u8 y.a3, .int .u8 y.b0, .int .u8 y.b1, .int .u8 y.b2, .int .u8 y.b3] 69)))⟩, .inr ⟨_, Take.eq (A := (sep (cel b3 [.int .u8 x.a0, .int .u8 x.a1, .int .u8 x.a2, .int .u8 x.a3, .int .u8 x.b0, .int .u8 x.b1, .int .u8 x.b2, .int .u8 x.b3, .int .i64 x.f, .int .i64 x.g] 29) (cel b5 [.int .u8 y.a0, .int .u8 y.a1, .int .u8 y.a2, .int .u8 y.a3, .int .u8 y.b0, .int .u8 y.b1, .int .u8 y.b2, .int .u8 y.b3] 69)))⟩, ?_⟩⟩
      refine Rg_emp ?_
      refine R_pure 11 rfl (by kernel_rfl) (by kernel_rfl) (by kernel_rfl) (by kernel_rfl) (.inr ⟨_, Take.eq (A := (sep (cel b3 [.int .u8 x.a0, .int .u8 x.a1, .int .u8 x.a2, .int .u8 x.a3, .int .u8 x.b0, .int .u8 x.b1, .int .u8 x.b2, .int .u8 x.b3, .int .i64 x.f, .int .i64 x.g] 29) (cel b5 [.int .u8 y.a0, .int .u8 y.a1, .int .u8 y.a2, .int .u8 y.a3, .int .u8 y.b0, .int .u8 y.b1, .int .u8 y.b2, .int .u8 y.b3] 69)))⟩) (opv_move rfl) rfl ?_
      refine R_pure 12 rfl (by kernel_rfl) (by kernel_rfl) (by kernel_rfl) (by kernel_rfl) (.inr ⟨_, Take.eq (A := (sep (cel b3 [.int .u8 x.a0, .int .u8 x.a1, .int .u8 x.a2, .int .u8 x.a3, .int .u8 x.b0, .int .u8 x.b1, .int .u8 x.b2, .int .u8 x.b3, .int .i64 x.f, .int .i64 x.g] 29) (cel b5 [.int .u8 y.a0, .int .u8 y.a1, .int .u8 y.a2, .int .u8 y.a3, .int .u8 y.b0, .int .u8 y.b1, .int .u8 y.b2, .int .u8 y.b3] 69)))⟩) (opv_extract (v := .agg [.int .u8 y.a0, .int .u8 y.a1, .int .u8 y.a2, .int .u8 y.a3, .int .u8 y.b0, .int .u8 y.b1, .int .u8 y.b2, .int .u8 y.b3, .int .i64 x.f, .int .i64 x.g].toArray) rfl rfl) rfl ?_
      refine R_pure 13 rfl (by kernel_rfl) (by kernel_rfl) (by kernel_rfl) (by kernel_rfl) (.inr ⟨_, Take.eq (A := (sep (cel b3 [.int .u8 x.a0, .int .u8 x.a1, .int .u8 x.a2, .int .u8 x.a3, .int .u8 x.b0, .int .u8 x.b1, .int .u8 x.b2, .int .u8 x.b3, .int .i64 x.f, .int .i64 x.g] 29) (cel b5 [.int .u8 y.a0, .int .u8 y.a1, .int .u8 y.a2, .int .u8 y.a3, .int .u8 y.b0, .int .u8 y.b1, .int .u8 y.b2, .int .u8 y.b3] 69)))⟩) (opv_extract rfl rfl) rfl ?_
      refine R_pure 14 rfl (by kernel_rfl) (by kernel_rfl) (by kernel_rfl) (by kernel_rfl) (.inr ⟨_, Take.eq (A := (sep (cel b3 [.int .u8 x.a0, .int .u8 x.a1, .int .u8 x.a2, .int .u8 x.a3, .int .u8 x.b0, .int .u8 x.b1, .int .u8 x.b2, .int .u8 x.b3, .int .i64 x.f, .int .i64 x.g] 29) (cel b5 [.int .u8 y.a0, .int .u8 y.a1, .int .u8 y.a2, .int .u8 y.a3, .int .u8 y.b0, .int .u8 y.b1, .int .u8 y.b2, .int .u8 y.b3] 69)))⟩) (opv_extract rfl rfl) rfl ?_
      refine R_only 15 rfl rfl (by kernel_rfl) (opx_alloc rfl) (fun _ _ => ⟨_, Take.eq (A := (sep (cel b3 [.int .u8 x.a0, .int .u8 x.a1, .int .u8 x.a2, .int .u8 x.a3, .int .u8 x.b0, .int .u8 x.b1, .int .u8 x.b2, .int .u8 x.b3, .int .i64 x.f, .int .i64 x.g] 29) (cel b5 [.int .u8 y.a0, .int .u8 y.a1, .int .u8 y.a2, .int .u8 y.a3, .int .u8 y.b0, .int .u8 y.b1, .int .u8 y.b2, .int .u8 y.b3] 69)))⟩) (.inr fun _ _ => ⟨_, Take.eq (A := (sep (cel b3 [.int .u8 x.a0, .int .u8 x.a1, .int .u8 x.a2, .int .u8 x.a3, .int .u8 x.b0, .int .u8 x.b1, .int .u8 x.b2, .int .u8 x.b3, .int .i64 x.f, .int .i64 x.g] 29) (cel b5 [.int .u8 y.a0, .int .u8 y.a1, .int .u8 y.a2, .int .u8 y.a3, .int .u8 y.b0, .int .u8 y.b1, .int .u8 y.b2, .int .u8 y.b3] 69)))⟩) (fun b9 _ => ?_)
      refine R_only 16 rfl rfl (by kernel_rfl) (opx_store rfl rfl rfl (by simp [Value.oneCell'])) (fun _ _ => ⟨_, Take.eq (A := (sep (cel b3 [.int .u8 x.a0, .int .u8 x.a1, .int .u8 x.a2, .int .u8 x.a3, .int .u8 x.b0, .int .u8 x.b1, .int .u8 x.b2, .int .u8 x.b3, .int .i64 x.f, .int .i64 x.g] 29) (cel b5 [.int .u8 y.a0, .int .u8 y.a1, .int .u8 y.a2, .int .u8 y.a3, .int .u8 y.b0, .int .u8 y.b1, .int .u8 y.b2, .int .u8 y.b3] 69)))⟩) (.inr fun _ _ => ⟨_, Take.eq (A := (sep (cel b3 [.int .u8 x.a0, .int .u8 x.a1, .int .u8 x.a2, .int .u8 x.a3, .int .u8 x.b0, .int .u8 x.b1, .int .u8 x.b2, .int .u8 x.b3, .int .i64 x.f, .int .i64 x.g] 29) (cel b5 [.int .u8 y.a0, .int .u8 y.a1, .int .u8 y.a2, .int .u8 y.a3, .int .u8 y.b0, .int .u8 y.b1, .int .u8 y.b2, .int .u8 y.b3] 69)))⟩) (fun _ _ => ?_)
      refine R_pure 17 rfl (by kernel_rfl) (by kernel_rfl) (by kernel_rfl) (by kernel_rfl) (.inr ⟨_, Take.eq (A := (sep (cel b3 [.int .u8 x.a0, .int .u8 x.a1, .int .u8 x.a2, .int .u8 x.a3, .int .u8 x.b0, .int .u8 x.b1, .int .u8 x.b2, .int .u8 x.b3, .int .i64 x.f, .int .i64 x.g] 29) (cel b5 [.int .u8 y.a0, .int .u8 y.a1, .int .u8 y.a2, .int .u8 y.a3, .int .u8 y.b0, .int .u8 y.b1, .int .u8 y.b2, .int .u8 y.b3] 69)))⟩) (opv_assign rfl) rfl ?_
      refine R_pure 18 rfl (by kernel_rfl) (by kernel_rfl) (by kernel_rfl) (by kernel_rfl) (.inr ⟨_, Take.eq (A := (sep (cel b3 [.int .u8 x.a0, .int .u8 x.a1, .int .u8 x.a2, .int .u8 x.a3, .int .u8 x.b0, .int .u8 x.b1, .int .u8 x.b2, .int .u8 x.b3, .int .i64 x.f, .int .i64 x.g] 29) (cel b5 [.int .u8 y.a0, .int .u8 y.a1, .int .u8 y.a2, .int .u8 y.a3, .int .u8 y.b0, .int .u8 y.b1, .int .u8 y.b2, .int .u8 y.b3] 69)))⟩) (opv_assign rfl) rfl ?_
      refine R_done (by kernel_rfl) ?_
      refine K_then ?_
      refine J_seq ?_
      refine J_region ?_
      refine L_v (opv_move rfl) rfl ?_
      refine L_v ((opv_eql rfl rfl).bool_t rfl) rfl ?_
      refine L_v (opv_move rfl) rfl ?_
      refine L_gon rfl rfl rfl ?_
      refine L_v (opv_move rfl) rfl ?_
      refine L_gon rfl rfl rfl ?_
      refine L_v (opv_move rfl) rfl ?_
      refine L_gon rfl rfl rfl ?_
      refine L_v ((opv_eqlS rfl rfl).bool_t rfl) rfl ?_
      first
        | refine L_v (opv_pick_tt rfl rfl) rfl ?_
        | refine L_v (opv_pick_ff rfl rfl) rfl ?_
        | refine L_v (opv_pick rfl rfl rfl) rfl ?_
      refine L_v (opv_move rfl) rfl ?_
      refine L_gon rfl rfl rfl ?_
      refine L_v (opv_loadS rfl) rfl ?_
      refine L_gon rfl rfl rfl ?_
      refine L_v ((opv_indexAddrA rfl rfl (by omega)).as (v' := .pointer (some (ad b5 0))) rfl) rfl ?_
      refine L_gon rfl rfl rfl ?_
      refine L_v (opv_loadS rfl) rfl ?_
      refine L_gon rfl rfl rfl ?_
      refine L_v ((opv_indexAddrA rfl rfl (by omega)).as (v' := .pointer (some (ad b5 4))) rfl) rfl ?_
      refine L_gon rfl rfl rfl ?_
      refine L_v (opv_loadS rfl) rfl ?_
      refine L_gon rfl rfl rfl ?_
      first
        | refine L_v (opv_fieldAddr0 rfl) rfl ?_
        | refine L_v (opv_fieldAddr rfl) rfl ?_
      refine L_gon rfl rfl rfl ?_
      refine L_v (opv_load rfl (Rd.look rfl)) rfl ?_
      refine L_gon rfl rfl rfl ?_
      first
        | refine L_v (opv_fieldAddr0 rfl) rfl ?_
        | refine L_v (opv_fieldAddr rfl) rfl ?_
      refine L_gon rfl rfl rfl ?_
      refine L_v (opv_load rfl (Rd.look rfl)) rfl ?_
      refine L_gon rfl rfl rfl ?_
      refine L_v (opv_build rfl) rfl ?_
      refine L_gon rfl rfl rfl ?_
      refine L_v ((opv_eqlF rfl rfl (by simp [Shape, CK.sh]) (by simp [Shape, CK.sh])).bool_t rfl) rfl ?_
      first
        | refine L_v (opv_pick_tt rfl rfl) rfl ?_
        | refine L_v (opv_pick_ff rfl rfl) rfl ?_
        | refine L_v (opv_pick rfl rfl rfl) rfl ?_
      refine L_v (opv_move rfl) rfl ?_
      refine L_gon rfl rfl rfl ?_
      refine L_x rfl (opx_call0 (uawake_spec) rfl rfl rfl) (fun _ _ => ?_)
      refine L_emp ?_
      first
        | refine L_v (opv_pick_tt rfl rfl) rfl ?_
        | refine L_v (opv_pick_ff rfl rfl) rfl ?_
        | refine L_v (opv_pick rfl rfl rfl) rfl ?_
      refine L_v (opv_assign rfl) rfl ?_
      refine L_nil ?_
      refine K_then ?_
      refine J_ret ?_
      exact K_ret1 rfl rfl () trivial (rfl) Ent.take
    · refine ⟨_, _, _, _, _, rfl, rfl, (opx_alloc rfl), fun b9 _ => ⟨⟨_, Take.eq (A := (sep (cel b3 [.int .u8 x.a0, .int .u8 x.a1, .int .u8 x.a2, .int .u8 x.a3, .int .u8 x.b0, .int .u8 x.b1, .int .u8 x.b2, .int .u8 x.b3, .int .i64 x.f, .int .i64 x.g] 29) (cel b5 [.int .u8 y.a0, .int .u8 y.a1, .int .u8 y.a2, .int .u8 y.a3, .int .u8 y.b0, .int .u8 y.b1, .int .u8 y.b2, .int .u8 y.b3] 69)))⟩, .inr ⟨_, Take.eq (A := (sep (cel b3 [.int .u8 x.a0, .int .u8 x.a1, .int .u8 x.a2, .int .u8 x.a3, .int .u8 x.b0, .int .u8 x.b1, .int .u8 x.b2, .int .u8 x.b3, .int .i64 x.f, .int .i64 x.g] 29) (cel b5 [.int .u8 y.a0, .int .u8 y.a1, .int .u8 y.a2, .int .u8 y.a3, .int .u8 y.b0, .int .u8 y.b1, .int .u8 y.b2, .int .u8 y.b3] 69)))⟩, ?_⟩⟩
      refine R_only 10 rfl rfl (by kernel_rfl) (opx_call0 (UD_none2 x y t hy hn hl) rfl rfl rfl) (fun _ _ => ⟨_, Take.eq (A := (sep (cel b3 [.int .u8 x.a0, .int .u8 x.a1, .int .u8 x.a2, .int .u8 x.a3, .int .u8 x.b0, .int .u8 x.b1, .int .u8 x.b2, .int .u8 x.b3, .int .i64 x.f, .int .i64 x.g] 29) (cel b5 [.int .u8 y.a0, .int .u8 y.a1, .int .u8 y.a2, .int .u8 y.a3, .int .u8 y.b0, .int .u8 y.b1, .int .u8 y.b2, .int .u8 y.b3] 69)))⟩) (.inr fun _ _ => ⟨_, Take.eq (A := (sep (cel b3 [.int .u8 x.a0, .int .u8 x.a1, .int .u8 x.a2, .int .u8 x.a3, .int .u8 x.b0, .int .u8 x.b1, .int .u8 x.b2, .int .u8 x.b3, .int .i64 x.f, .int .i64 x.g] 29) (cel b5 [.int .u8 y.a0, .int .u8 y.a1, .int .u8 y.a2, .int .u8 y.a3, .int .u8 y.b0, .int .u8 y.b1, .int .u8 y.b2, .int .u8 y.b3] 69)))⟩) (fun _ _ => ?_)
      refine Rg_emp ?_
      refine R_pure 11 rfl (by kernel_rfl) (by kernel_rfl) (by kernel_rfl) (by kernel_rfl) (.inr ⟨_, Take.eq (A := (sep (cel b3 [.int .u8 x.a0, .int .u8 x.a1, .int .u8 x.a2, .int .u8 x.a3, .int .u8 x.b0, .int .u8 x.b1, .int .u8 x.b2, .int .u8 x.b3, .int .i64 x.f, .int .i64 x.g] 29) (cel b5 [.int .u8 y.a0, .int .u8 y.a1, .int .u8 y.a2, .int .u8 y.a3, .int .u8 y.b0, .int .u8 y.b1, .int .u8 y.b2, .int .u8 y.b3] 69)))⟩) (opv_move rfl) rfl ?_
      refine R_pure 12 rfl (by kernel_rfl) (by kernel_rfl) (by kernel_rfl) (by kernel_rfl) (.inr ⟨_, Take.eq (A := (sep (cel b3 [.int .u8 x.a0, .int .u8 x.a1, .int .u8 x.a2, .int .u8 x.a3, .int .u8 x.b0, .int .u8 x.b1, .int .u8 x.b2, .int .u8 x.b3, .int .i64 x.f, .int .i64 x.g] 29) (cel b5 [.int .u8 y.a0, .int .u8 y.a1, .int .u8 y.a2, .int .u8 y.a3, .int .u8 y.b0, .int .u8 y.b1, .int .u8 y.b2, .int .u8 y.b3] 69)))⟩) (opv_extract (v := .agg [.int .u8 y.a0, .int .u8 y.a1, .int .u8 y.a2, .int .u8 y.a3, .int .u8 y.b0, .int .u8 y.b1, .int .u8 y.b2, .int .u8 y.b3, .int .i64 x.f, .int .i64 x.g].toArray) rfl rfl) rfl ?_
      refine R_pure 13 rfl (by kernel_rfl) (by kernel_rfl) (by kernel_rfl) (by kernel_rfl) (.inr ⟨_, Take.eq (A := (sep (cel b3 [.int .u8 x.a0, .int .u8 x.a1, .int .u8 x.a2, .int .u8 x.a3, .int .u8 x.b0, .int .u8 x.b1, .int .u8 x.b2, .int .u8 x.b3, .int .i64 x.f, .int .i64 x.g] 29) (cel b5 [.int .u8 y.a0, .int .u8 y.a1, .int .u8 y.a2, .int .u8 y.a3, .int .u8 y.b0, .int .u8 y.b1, .int .u8 y.b2, .int .u8 y.b3] 69)))⟩) (opv_extract rfl rfl) rfl ?_
      refine R_pure 14 rfl (by kernel_rfl) (by kernel_rfl) (by kernel_rfl) (by kernel_rfl) (.inr ⟨_, Take.eq (A := (sep (cel b3 [.int .u8 x.a0, .int .u8 x.a1, .int .u8 x.a2, .int .u8 x.a3, .int .u8 x.b0, .int .u8 x.b1, .int .u8 x.b2, .int .u8 x.b3, .int .i64 x.f, .int .i64 x.g] 29) (cel b5 [.int .u8 y.a0, .int .u8 y.a1, .int .u8 y.a2, .int .u8 y.a3, .int .u8 y.b0, .int .u8 y.b1, .int .u8 y.b2, .int .u8 y.b3] 69)))⟩) (opv_extract rfl rfl) rfl ?_
      refine R_only 16 rfl rfl (by kernel_rfl) (opx_store rfl rfl rfl (by simp [Value.oneCell'])) (fun _ _ => ⟨_, Take.eq (A := (sep (cel b3 [.int .u8 x.a0, .int .u8 x.a1, .int .u8 x.a2, .int .u8 x.a3, .int .u8 x.b0, .int .u8 x.b1, .int .u8 x.b2, .int .u8 x.b3, .int .i64 x.f, .int .i64 x.g] 29) (cel b5 [.int .u8 y.a0, .int .u8 y.a1, .int .u8 y.a2, .int .u8 y.a3, .int .u8 y.b0, .int .u8 y.b1, .int .u8 y.b2, .int .u8 y.b3] 69)))⟩) (.inr fun _ _ => ⟨_, Take.eq (A := (sep (cel b3 [.int .u8 x.a0, .int .u8 x.a1, .int .u8 x.a2, .int .u8 x.a3, .int .u8 x.b0, .int .u8 x.b1, .int .u8 x.b2, .int .u8 x.b3, .int .i64 x.f, .int .i64 x.g] 29) (cel b5 [.int .u8 y.a0, .int .u8 y.a1, .int .u8 y.a2, .int .u8 y.a3, .int .u8 y.b0, .int .u8 y.b1, .int .u8 y.b2, .int .u8 y.b3] 69)))⟩) (fun _ _ => ?_)
      refine R_pure 17 rfl (by kernel_rfl) (by kernel_rfl) (by kernel_rfl) (by kernel_rfl) (.inr ⟨_, Take.eq (A := (sep (cel b3 [.int .u8 x.a0, .int .u8 x.a1, .int .u8 x.a2, .int .u8 x.a3, .int .u8 x.b0, .int .u8 x.b1, .int .u8 x.b2, .int .u8 x.b3, .int .i64 x.f, .int .i64 x.g] 29) (cel b5 [.int .u8 y.a0, .int .u8 y.a1, .int .u8 y.a2, .int .u8 y.a3, .int .u8 y.b0, .int .u8 y.b1, .int .u8 y.b2, .int .u8 y.b3] 69)))⟩) (opv_assign rfl) rfl ?_
      refine R_pure 18 rfl (by kernel_rfl) (by kernel_rfl) (by kernel_rfl) (by kernel_rfl) (.inr ⟨_, Take.eq (A := (sep (cel b3 [.int .u8 x.a0, .int .u8 x.a1, .int .u8 x.a2, .int .u8 x.a3, .int .u8 x.b0, .int .u8 x.b1, .int .u8 x.b2, .int .u8 x.b3, .int .i64 x.f, .int .i64 x.g] 29) (cel b5 [.int .u8 y.a0, .int .u8 y.a1, .int .u8 y.a2, .int .u8 y.a3, .int .u8 y.b0, .int .u8 y.b1, .int .u8 y.b2, .int .u8 y.b3] 69)))⟩) (opv_assign rfl) rfl ?_
      refine R_done (by kernel_rfl) ?_
      refine K_then ?_
      refine J_seq ?_
      refine J_region ?_
      refine L_v (opv_move rfl) rfl ?_
      refine L_v ((opv_eql rfl rfl).bool_t rfl) rfl ?_
      refine L_v (opv_move rfl) rfl ?_
      refine L_gon rfl rfl rfl ?_
      refine L_v (opv_move rfl) rfl ?_
      refine L_gon rfl rfl rfl ?_
      refine L_v (opv_move rfl) rfl ?_
      refine L_gon rfl rfl rfl ?_
      refine L_v ((opv_eqlS rfl rfl).bool_t rfl) rfl ?_
      first
        | refine L_v (opv_pick_tt rfl rfl) rfl ?_
        | refine L_v (opv_pick_ff rfl rfl) rfl ?_
        | refine L_v (opv_pick rfl rfl rfl) rfl ?_
      refine L_v (opv_move rfl) rfl ?_
      refine L_gon rfl rfl rfl ?_
      refine L_v (opv_loadS rfl) rfl ?_
      refine L_gon rfl rfl rfl ?_
      refine L_v ((opv_indexAddrA rfl rfl (by omega)).as (v' := .pointer (some (ad b5 0))) rfl) rfl ?_
      refine L_gon rfl rfl rfl ?_
      refine L_v (opv_loadS rfl) rfl ?_
      refine L_gon rfl rfl rfl ?_
      refine L_v ((opv_indexAddrA rfl rfl (by omega)).as (v' := .pointer (some (ad b5 4))) rfl) rfl ?_
      refine L_gon rfl rfl rfl ?_
      refine L_v (opv_loadS rfl) rfl ?_
      refine L_gon rfl rfl rfl ?_
      first
        | refine L_v (opv_fieldAddr0 rfl) rfl ?_
        | refine L_v (opv_fieldAddr rfl) rfl ?_
      refine L_gon rfl rfl rfl ?_
      refine L_v (opv_load rfl (Rd.look rfl)) rfl ?_
      refine L_gon rfl rfl rfl ?_
      first
        | refine L_v (opv_fieldAddr0 rfl) rfl ?_
        | refine L_v (opv_fieldAddr rfl) rfl ?_
      refine L_gon rfl rfl rfl ?_
      refine L_v (opv_load rfl (Rd.look rfl)) rfl ?_
      refine L_gon rfl rfl rfl ?_
      refine L_v (opv_build rfl) rfl ?_
      refine L_gon rfl rfl rfl ?_
      refine L_v ((opv_eqlF rfl rfl (by simp [Shape, CK.sh]) (by simp [Shape, CK.sh])).bool_t rfl) rfl ?_
      first
        | refine L_v (opv_pick_tt rfl rfl) rfl ?_
        | refine L_v (opv_pick_ff rfl rfl) rfl ?_
        | refine L_v (opv_pick rfl rfl rfl) rfl ?_
      refine L_v (opv_move rfl) rfl ?_
      refine L_gon rfl rfl rfl ?_
      refine L_x rfl (opx_call0 (uawake_spec) rfl rfl rfl) (fun _ _ => ?_)
      refine L_emp ?_
      first
        | refine L_v (opv_pick_tt rfl rfl) rfl ?_
        | refine L_v (opv_pick_ff rfl rfl) rfl ?_
        | refine L_v (opv_pick rfl rfl rfl) rfl ?_
      refine L_v (opv_assign rfl) rfl ?_
      refine L_nil ?_
      refine K_then ?_
      refine J_ret ?_
      exact K_ret1 rfl rfl () trivial (rfl) Ent.take

theorem UdpNone_law (W : World) (x : En) (t : ByteArray) (y : Ip2) (hx : okEn x) (hy : okIp2 y) : FSpec Try.prog 12 #[.agg (encEn x).toArray, .string t, .agg (encIp2 y).toArray] (old W) (fun _ : Unit => True) (fun _ => .bool true) (fun _ => old W) := by
  by_cases h : 2000 < t.size
  · exact UN_big W x t y h
  · exact UN_ok W x t y hx hy (by omega)

end Go.Proofs.Ytdmlcnecildliaa
namespace Go.Proofs.Ytdmlcnecildliaa.udpNone
open Go.ChangeShapes Go.WideShapes Go.ChangeAt Go.RowKit Go.SLA
open Go.ChangeMaps (open_string shut_string)
set_option linter.unusedVariables false
theorem own : ownKnob Try.prog.godebug = none := by kernel_rfl
theorem laidOut : laidOutB Try.prog = true := by kernel_rfl
set_option maxRecDepth 100000 in
theorem lifted (os : Os) (started : os.Started) (H : Type) (enc : TypeId × Value → H) :
    ReturnsInHanded {} Try.checked os 12 .any (Rows.udpNoneSpec.pre6 enc Try.prog Try.f12 Rows.udpNoneRow.domain false) (Rows.udpNoneSpec.post enc Try.prog Try.f12 false true false false) := by
  refine returnsInHanded_of_change_sized (C := Try.checked) own started (by kernel_rfl) Try.func12
    (ChangeSpec.witness6 (enc := enc) (C := Try.checked) false ⟨#[], #[.agg (encEn en0).toArray, .string ByteArray.empty, .agg #[.int .u8 0, .int .u8 0, .int .u8 0, .int .u8 0, .int .u8 0, .int .u8 0, .int .u8 0, .int .u8 0]], []⟩ 8 (by kernel_rfl) (by kernel_rfl) (by kernel_rfl) (by kernel_rfl)) ?_
  intro W base args ds gs before hval0 hW hcnd hsz0 _
  have hsz : (DataW.weightsEach Try.prog (Try.f12.params.toList ++ Rows.udpNoneSpec.plain.varTypes Try.prog) (ds ++ gs)).all (· ≤ reachBytes) = true := hsz0
  have hval : ∀ (j : Nat) t v, Try.f12.params[j]? = some t → args[j]? = some v → Value.okWide Try.prog W .any base t v := hval0
  have hW' := hW
  obtain ⟨p, q, hA0, hV, rfl, hfz, hnd⟩ := hW
  have hA : DataW.TrodAll enc Try.prog W 0 (fun _ => true) true Try.f12.params.toList args.toList ds p := hA0
  rw [Try.params12] at hA hval hsz
  obtain ⟨v0, vs0, d0, ds0, p0, q0, hargs, rfl, rfl, h0, r0⟩ := trodAll_cons hA
  obtain ⟨v1, vs1, d1, ds1, p1, q1, rfl, rfl, rfl, h1, r1⟩ := trodAll_cons r0
  obtain ⟨v2, vs2, d2, ds2, p2, q2, rfl, rfl, rfl, h2, r2⟩ := trodAll_cons r1
  obtain ⟨rfl, rfl, rfl⟩ := trodAll_nil r2
  obtain rfl : args = #[v0, v1, v2] := by cases args; simp_all
  obtain ⟨rfl, rfl⟩ := trodVars_none hV
  have k0 := h0
  have lt0 : ∀ x ∈ p0, x.block < W.heap.size := by obtain ⟨m, hm⟩ := k0; exact DataW.trod_lt m _ _ _ hm
  obtain ⟨l0, rfl, g0⟩ := open_flat (D := 5) (ks := ksEn) (by kernel_rfl) (by kernel_rfl) (hval 0 29 v0 rfl rfl) h0
  obtain ⟨x0, rfl, ok0⟩ := decEn l0 g0
  have k1 := h1
  have lt1 : ∀ x ∈ p1, x.block < W.heap.size := by obtain ⟨m, hm⟩ := k1; exact DataW.trod_lt m _ _ _ hm
  obtain ⟨a1, rfl, rfl, rfl, y1⟩ := open_string Try.underlying9 (hval 1 9 v1 rfl rfl) h1
  have z1 := sized_string hsz (j := 1) (t := 9) rfl rfl
  rw [Array.length_toList] at z1
  have k2 := h2
  have lt2 : ∀ x ∈ p2, x.block < W.heap.size := by obtain ⟨m, hm⟩ := k2; exact DataW.trod_lt m _ _ _ hm
  obtain ⟨l2, rfl, g2⟩ := open_flat (D := 5) (ks := ksIp2) (by kernel_rfl) (by kernel_rfl) (hval 2 69 v2 rfl rfl) h2
  obtain ⟨x2, rfl, ok2⟩ := decIp2 l2 g2
  clear hA0 hval0 hsz0 hsz
  refine (FSpec.law (UdpNone_law W x0 a1 x2 ok0 ok2)).mono fun e W' ⟨he, bel⟩ => ?_
  subst he
  exact ⟨_, rfl, _, _, _, [], _, [], hW', trodAll_mk1 (shut_bool Try.underlying4 _), (trodAll_cons_mk (Below.trod laidOut (by kernel_rfl) (of_decide_eq_true (by kernel_rfl)) k0 bel lt0) (trodAll_cons_mk (Below.trod laidOut (by kernel_rfl) (of_decide_eq_true (by kernel_rfl)) k1 bel lt1) (trodAll_cons_mk (Below.trod laidOut (by kernel_rfl) (of_decide_eq_true (by kernel_rfl)) k2 bel lt2) trodAll_mk0))), rfl, bel.frame _, fun h => by cases h⟩
theorem over : Rows.udpNoneRow.holds Try.pinned (OpenSpec.ofChange Rows.udpNoneSpec) :=
  OpenClaim.holds_of_wide 12 Try.f12 rfl rfl rfl rfl rfl rfl rfl ⟨rfl, rfl, rfl, rfl, rfl⟩ rfl rfl rfl rfl rfl (by kernel_rfl) Try.func12 (by kernel_rfl)
    (of_decide_eq_true (by kernel_rfl)) (by unfold Func.isWrapper; first | (rw [if_pos (by decide +kernel)]; kernel_rfl) | (rw [if_neg (by decide +kernel)]; exact ⟨rfl, rfl⟩))
    (fun os started H enc _ => lifted os started H enc)
end Go.Proofs.Ytdmlcnecildliaa.udpNone
namespace Go.Proofs.Ytdmlcnecildliaa
theorem udpNone_holds : Rows.UdpNoneSaid := udpNone.over
#print axioms udpNone_holds
end Go.Proofs.Ytdmlcnecildliaa
namespace Go.Proofs.Ytdmlcnecildliaa
open Go.SLA
end Go.Proofs.Ytdmlcnecildliaa
