/- Contracts of udp.Decode and of its reference, each proved by a walk over its code; they are used by the texts that import this one. -/
import Derived.Test.YtdmlcnecildliaaUc
import Derived.Test.YtdmlcnecildliaaBu
import Derived.Test.YtdmlcnecildliaaO
import Derived.Test.YtdmlcnecildliaaH
namespace Go.Proofs.Ytdmlcnecildliaa
open Go.SLA
set_option maxRecDepth 100000
set_option linter.unusedVariables false
set_option linter.unusedSimpArgs false
attribute [local irreducible] J L K QL Rg FSpec OpV OpX Rd Back

def enz : En := ⟨0, 0, 0, 0, 0, 0, 0, 0, 0, 0⟩
def En.at (x : En) (f g : Nat) : En := ⟨x.a0, x.a1, x.a2, x.a3, x.b0, x.b1, x.b2, x.b3, f, g⟩
/-- What is summed of the bytes of a datagram. -/
def summed (s : ByteArray) : ByteArray := s.extract 0 6 ++ ⟨#[0, 0]⟩ ++ s.extract 8 s.size
/-- The datagram that bytes are (its ends, what it carries), or why they are none. -/
def decU (x : En) (s : ByteArray) : En × ByteArray × Int :=
  if s.size < 8 then (enz, ByteArray.empty, 10) else if word s 4 < 8 ∨ 8200 < word s 4 then (enz, ByteArray.empty, 15) else if s.size < word s 4 then (enz, ByteArray.empty, 10) else if word s 4 < s.size then (enz, ByteArray.empty, 11)
  else if word s 6 ≠ 0 ∧ word s 6 ≠ usum x.a x.b (summed s) then (enz, ByteArray.empty, 12) else (x.at (word s 0) (word s 2), s.extract 8 s.size, 0)
theorem short4 {s : ByteArray} (h : s.size < 8) : (nextC 2 (nextC 2 (nextC 2 (nextC 2 (s, 0))))).2 ≠ 0 := fun e => by
  have h1 := nextC_size (c := 2) (q := nextC 2 (nextC 2 (nextC 2 (s, 0))))
  have h2 := nextC_size (c := 2) (q := nextC 2 (nextC 2 (s, 0)))
  have h3 := nextC_size (c := 2) (q := nextC 2 (s, 0))
  have h4 := nextC_size (c := 2) (q := (s, 0))
  have g1 := h1.2 e
  have g2 := h2.2 g1.1
  have g3 := h3.2 g2.1
  have g4 := h4.2 g3.1
  have : ((s, (0 : Int)) : ByteArray × Int).1.size = s.size := rfl
  omega
theorem RU16_zero (p : Nat) (s : ByteArray) (h : 2 ≤ s.size) : FSpec Try.prog 33 #[.pointer (some (ad p 0))] (cel p [.string s, .int .i64 0] 85) (fun _ : Unit => True) (fun _ => .int .i64 (word s 0)) (fun _ => cel p [.string (s.extract 2 s.size), .int .i64 0] 85) := RU16_ok p s h
theorem word_eq (s : ByteArray) (i : Nat) : word s i = bn s i * 256 + bn s (i + 1) := by unfold word; rfl
attribute [local irreducible] be usum ones sumT word nextC

theorem UDecode_short (x : En) (s : ByteArray) (h : s.size < 8) : FSpec Try.prog 34 #[.agg [.int .u8 x.a0, .int .u8 x.a1, .int .u8 x.a2, .int .u8 x.a3].toArray, .agg [.int .u8 x.b0, .int .u8 x.b1, .int .u8 x.b2, .int .u8 x.b3].toArray, .string s] (emp) (fun _ : Unit => True) (fun _ => .tuple #[.agg (encEn (decU x s).1).toArray, .string (decU x s).2.1, .int .i64 (decU x s).2.2]) (fun _ => emp) := by
  refine FSpec.enter' Try.func34 rfl Try.ntmps34 rfl fun σ F => ?_
  refine J_emp ?_
  refine J_seq ?_
  refine J_region ?_
  refine L_x rfl (opx_box (l := [.int .u8 x.a0, .int .u8 x.a1, .int .u8 x.a2, .int .u8 x.a3]) rfl rfl) (fun b3 _ => ?_)
  refine L_x rfl (opx_box (l := [.int .u8 x.b0, .int .u8 x.b1, .int .u8 x.b2, .int .u8 x.b3]) rfl rfl) (fun b4 _ => ?_)
  refine L_x rfl (opx_alloc rfl) (fun b6 _ => ?_)
  refine L_v (opv_assign rfl) rfl ?_
  refine L_v (opv_assign rfl) rfl ?_
  refine L_nil ?_
  refine K_then ?_
  refine J_seq ?_
  refine J_region ?_
  refine L_v (opv_move rfl) rfl ?_
  refine L_x rfl (opx_call0 (Read_spec s) rfl rfl rfl) (fun p _ => ?_)
  refine L_v (opv_assign rfl) rfl ?_
  refine L_nil ?_
  refine K_then ?_
  refine J_seq ?_
  refine J_region ?_
  refine L_v (opv_loadS rfl) rfl ?_
  refine L_v (opv_loadS rfl) rfl ?_
  refine L_v (opv_build rfl) rfl ?_
  refine L_x rfl (opx_alloc rfl) (fun b10 _ => ?_)
  refine L_x rfl (opx_store rfl rfl rfl (by simp [Value.oneCell'])) (fun _ _ => ?_)
  refine L_nil ?_
  refine K_then ?_
  refine J_seq ?_
  refine J_region ?_
  refine L_v (opv_move rfl) rfl ?_
  refine L_x rfl (opx_call0 (RU16_spec p (s, 0).1 (s, 0).2) rfl rfl rfl) (fun _ _ => ?_)
  refine L_v (opv_move rfl) rfl ?_
  refine L_x rfl (opx_call0 (RU16_spec p (nextC 2 (s, 0)).1 (nextC 2 (s, 0)).2) rfl rfl rfl) (fun _ _ => ?_)
  first
    | refine L_v (opv_fieldAddr0 rfl) rfl ?_
    | refine L_v (opv_fieldAddr rfl) rfl ?_
  refine L_x rfl (opx_store rfl rfl rfl (by simp [Value.oneCell'])) (fun _ _ => ?_)
  first
    | refine L_v (opv_fieldAddr0 rfl) rfl ?_
    | refine L_v (opv_fieldAddr rfl) rfl ?_
  refine L_x rfl (opx_store rfl rfl rfl (by simp [Value.oneCell'])) (fun _ _ => ?_)
  refine L_nil ?_
  refine K_then ?_
  refine J_seq ?_
  refine J_region ?_
  refine L_v (opv_move rfl) rfl ?_
  refine L_x rfl (opx_call0 (RU16_spec p (nextC 2 (nextC 2 (s, 0))).1 (nextC 2 (nextC 2 (s, 0))).2) rfl rfl rfl) (fun _ _ => ?_)
  refine L_v (opv_move rfl) rfl ?_
  refine L_x rfl (opx_call0 (RU16_spec p (nextC 2 (nextC 2 (nextC 2 (s, 0)))).1 (nextC 2 (nextC 2 (nextC 2 (s, 0)))).2) rfl rfl rfl) (fun _ _ => ?_)
  refine L_v (opv_assign rfl) rfl ?_
  refine L_v (opv_assign rfl) rfl ?_
  refine L_nil ?_
  refine K_then ?_
  refine J_seq ?_
  refine J_block ?_
  refine J_seq ?_
  refine J_region ?_
  refine L_v (opv_move rfl) rfl ?_
  refine L_x rfl (opx_call0 (Err_spec p (nextC 2 (nextC 2 (nextC 2 (nextC 2 (s, 0))))).1 (nextC 2 (nextC 2 (nextC 2 (nextC 2 (s, 0))))).2) rfl rfl rfl) (fun _ _ => ?_)
  refine L_v ((opv_neq rfl rfl).bool_t (short4 h)) rfl ?_
  refine L_v (opv_assign rfl) rfl ?_
  refine L_nil ?_
  refine K_then ?_
  refine J_cond_true rfl ?_
  refine J_seq ?_
  refine J_region ?_
  refine L_v (opv_build rfl) rfl ?_
  refine L_x rfl (opx_store rfl rfl rfl (by simp [Value.oneCell'])) (fun _ _ => ?_)
  refine L_v (opv_assign rfl) rfl ?_
  refine L_v (opv_assign rfl) rfl ?_
  refine L_nil ?_
  refine K_then ?_
  refine J_ret ?_
  refine K_block_ret ?_
  refine K_then_ret ?_
  exact K_ret3c rfl rfl rfl rfl rfl () trivial (by rw [show decU x s = (enz, ByteArray.empty, 10) from by unfold decU; (repeat' split) <;> first | rfl | (exfalso; omega)]; rfl) Ent.take

theorem UDecode_long (x : En) (s : ByteArray) (hx : okEn x) (h : ¬ s.size < 8) (hs : s.size ≤ 1000000) : FSpec Try.prog 34 #[.agg [.int .u8 x.a0, .int .u8 x.a1, .int .u8 x.a2, .int .u8 x.a3].toArray, .agg [.int .u8 x.b0, .int .u8 x.b1, .int .u8 x.b2, .int .u8 x.b3].toArray, .string s] (emp) (fun _ : Unit => True) (fun _ => .tuple #[.agg (encEn (decU x s).1).toArray, .string (decU x s).2.1, .int .i64 (decU x s).2.2]) (fun _ => emp) := by
  have hz6 : (s.extract 0 6).size = 6 := ext_size s 0 6 (by omega)
  have hz8 : (s.extract 8 s.size).size = s.size - 8 := ext_size s _ _ (Nat.le_refl _)
  have hz0 : (⟨#[0, 0]⟩ : ByteArray).size = 2 := rfl
  have hzs : (summed s).size = s.size := by unfold summed; rw [ByteArray.size_append, ByteArray.size_append, hz6, hz8, hz0]; omega
  refine FSpec.enter' Try.func34 rfl Try.ntmps34 rfl fun σ F => ?_
  refine J_emp ?_
  refine J_seq ?_
  refine J_region ?_
  refine L_x rfl (opx_box (l := [.int .u8 x.a0, .int .u8 x.a1, .int .u8 x.a2, .int .u8 x.a3]) rfl rfl) (fun b3 _ => ?_)
  refine L_x rfl (opx_box (l := [.int .u8 x.b0, .int .u8 x.b1, .int .u8 x.b2, .int .u8 x.b3]) rfl rfl) (fun b4 _ => ?_)
  refine L_x rfl (opx_alloc rfl) (fun b6 _ => ?_)
  refine L_v (opv_assign rfl) rfl ?_
  refine L_v (opv_assign rfl) rfl ?_
  refine L_nil ?_
  refine K_then ?_
  refine J_seq ?_
  refine J_region ?_
  refine L_v (opv_move rfl) rfl ?_
  refine L_x rfl (opx_call0 (Read_spec s) rfl rfl rfl) (fun p _ => ?_)
  refine L_v (opv_assign rfl) rfl ?_
  refine L_nil ?_
  refine K_then ?_
  refine J_seq ?_
  refine J_region ?_
  refine L_v (opv_loadS rfl) rfl ?_
  refine L_v (opv_loadS rfl) rfl ?_
  refine L_v (opv_build rfl) rfl ?_
  refine L_x rfl (opx_alloc rfl) (fun b10 _ => ?_)
  refine L_x rfl (opx_store rfl rfl rfl (by simp [Value.oneCell'])) (fun _ _ => ?_)
  refine L_nil ?_
  refine K_then ?_
  refine J_seq ?_
  refine J_region ?_
  refine L_v (opv_move rfl) rfl ?_
  refine L_x rfl (opx_call0 (RU16_zero p s (by omega)) rfl rfl rfl) (fun _ _ => ?_)
  refine L_v (opv_move rfl) rfl ?_
  refine L_x rfl (opx_call0 (RU16_at p 2 s (by omega)) rfl rfl rfl) (fun _ _ => ?_)
  first
    | refine L_v (opv_fieldAddr0 rfl) rfl ?_
    | refine L_v (opv_fieldAddr rfl) rfl ?_
  refine L_x rfl (opx_store rfl rfl rfl (by simp [Value.oneCell'])) (fun _ _ => ?_)
  first
    | refine L_v (opv_fieldAddr0 rfl) rfl ?_
    | refine L_v (opv_fieldAddr rfl) rfl ?_
  refine L_x rfl (opx_store rfl rfl rfl (by simp [Value.oneCell'])) (fun _ _ => ?_)
  refine L_nil ?_
  refine K_then ?_
  refine J_seq ?_
  refine J_region ?_
  refine L_v (opv_move rfl) rfl ?_
  refine L_x rfl (opx_call0 (RU16_at p 4 s (by omega)) rfl rfl rfl) (fun _ _ => ?_)
  refine L_v (opv_move rfl) rfl ?_
  refine L_x rfl (opx_call0 (RU16_at p 6 s (by omega)) rfl rfl rfl) (fun _ _ => ?_)
  refine L_v (opv_assign rfl) rfl ?_
  refine L_v (opv_assign rfl) rfl ?_
  refine L_nil ?_
  refine K_then ?_
  refine J_seq ?_
  refine J_block ?_
  refine J_seq ?_
  refine J_region ?_
  refine L_v (opv_move rfl) rfl ?_
  refine L_x rfl (opx_call0 (Err_spec p (s.extract 8 s.size) 0) rfl rfl rfl) (fun _ _ => ?_)
  refine L_v ((opv_neq rfl rfl).bool_f (by decide)) rfl ?_
  refine L_v (opv_assign rfl) rfl ?_
  refine L_nil ?_
  refine K_then ?_
  refine J_cond_false rfl ?_
  refine J_seq ?_
  refine J_region ?_
  refine L_v (opv_move rfl) rfl ?_
  refine L_v (opv_lss rfl rfl) rfl ?_
  refine L_v (opv_move rfl) rfl ?_
  refine L_gf rfl rfl (fun h1 => ?_) (fun h1 => ?_) (fun _ h => by cases h; rfl)
  · refine L_v (opv_move rfl) rfl ?_
    refine L_gf_on h1 rfl rfl ?_
    refine L_v (opv_gtr rfl rfl) rfl ?_
    refine L_v (opv_pick_f rfl h1 rfl) rfl ?_
    refine L_v (opv_assign rfl) rfl ?_
    refine L_nil ?_
    refine K_then ?_
    refine J_cond rfl (fun h2 => ?_) (fun h2 => ?_)
    · refine J_seq ?_
      refine J_region ?_
      refine L_v (opv_build rfl) rfl ?_
      refine L_x rfl (opx_store rfl rfl rfl (by simp [Value.oneCell'])) (fun _ _ => ?_)
      refine L_v (opv_assign rfl) rfl ?_
      refine L_v (opv_assign rfl) rfl ?_
      refine L_nil ?_
      refine K_then ?_
      refine J_ret ?_
      refine K_block_ret ?_
      refine K_then_ret ?_
      exact K_ret3c rfl rfl rfl rfl rfl () trivial (by rw [show decU x s = (enz, ByteArray.empty, 15) from by unfold decU; (repeat' split) <;> first | rfl | (exfalso; omega)]; rfl) Ent.take
    · refine J_seq ?_
      refine J_region ?_
      refine L_v (opv_move rfl) rfl ?_
      refine L_v (opv_move rfl) rfl ?_
      first
        | refine L_v (opv_lenL rfl) rfl ?_
        | refine L_v (opv_lenS rfl) rfl ?_
      refine L_v (opv_gtr rfl rfl) rfl ?_
      refine L_v (opv_assign rfl) rfl ?_
      refine L_nil ?_
      refine K_then ?_
      refine J_cond rfl (fun h3 => ?_) (fun h3 => ?_)
      · refine J_seq ?_
        refine J_region ?_
        refine L_v (opv_build rfl) rfl ?_
        refine L_x rfl (opx_store rfl rfl rfl (by simp [Value.oneCell'])) (fun _ _ => ?_)
        refine L_v (opv_assign rfl) rfl ?_
        refine L_v (opv_assign rfl) rfl ?_
        refine L_nil ?_
        refine K_then ?_
        refine J_ret ?_
        refine K_block_ret ?_
        refine K_then_ret ?_
        exact K_ret3c rfl rfl rfl rfl rfl () trivial (by rw [show decU x s = (enz, ByteArray.empty, 10) from by unfold decU; (repeat' split) <;> first | rfl | (exfalso; omega)]; rfl) Ent.take
      · refine J_seq ?_
        refine J_region ?_
        refine L_v (opv_move rfl) rfl ?_
        refine L_v (opv_move rfl) rfl ?_
        first
          | refine L_v (opv_lenL rfl) rfl ?_
          | refine L_v (opv_lenS rfl) rfl ?_
        refine L_v (opv_lss rfl rfl) rfl ?_
        refine L_v (opv_assign rfl) rfl ?_
        refine L_nil ?_
        refine K_then ?_
        refine J_cond rfl (fun h4 => ?_) (fun h4 => ?_)
        · refine J_seq ?_
          refine J_region ?_
          refine L_v (opv_build rfl) rfl ?_
          refine L_x rfl (opx_store rfl rfl rfl (by simp [Value.oneCell'])) (fun _ _ => ?_)
          refine L_v (opv_assign rfl) rfl ?_
          refine L_v (opv_assign rfl) rfl ?_
          refine L_nil ?_
          refine K_then ?_
          refine J_ret ?_
          refine K_block_ret ?_
          refine K_then_ret ?_
          exact K_ret3c rfl rfl rfl rfl rfl () trivial (by rw [show decU x s = (enz, ByteArray.empty, 11) from by unfold decU; (repeat' split) <;> first | rfl | (exfalso; omega)]; rfl) Ent.take
        · refine J_seq ?_
          refine J_quiet Try.mixed (by kernel_rfl) ?_
          refine Q_v (opv_move rfl) rfl ?_
          first
            | refine Q_v (opv_neq rfl rfl) rfl ?_
            | refine Q_v (opv_neqS rfl rfl) rfl ?_
            | refine Q_v (opv_neqNil rfl rfl) rfl ?_
            | refine Q_v (opv_neqB rfl rfl) rfl ?_
          refine Q_v (opv_move rfl) rfl ?_
          refine Q_gt rfl rfl (fun h5 => ?_) (fun h5 => ?_) (fun _ h => by cases h; rfl)
          · refine Q_v (opv_move rfl) rfl ?_
            refine Q_gt_on h5 rfl rfl ?_
            refine Q_v (opv_loadS rfl) rfl ?_
            refine Q_gt_on h5 rfl rfl ?_
            refine Q_v (opv_loadS rfl) rfl ?_
            refine Q_gt_on h5 rfl rfl ?_
            refine Q_v (opv_move rfl) rfl ?_
            refine Q_gt_on h5 rfl rfl ?_
            refine Q_v ((opv_sliceShi rfl rfl (by omega)).as (congrArg (fun k => Value.string (s.extract 0 k)) (show Int.toNat 6 = 6 from rfl))) rfl ?_
            refine Q_gt_on h5 rfl rfl ?_
            refine Q_v (opv_addS rfl rfl (by rw [hz6]; decide)) rfl ?_
            refine Q_gt_on h5 rfl rfl ?_
            refine Q_v (opv_move rfl) rfl ?_
            refine Q_gt_on h5 rfl rfl ?_
            refine Q_v ((opv_sliceSlo rfl rfl (by omega)).as (congrArg (fun k => Value.string (s.extract k s.size)) (show Int.toNat 8 = 8 from rfl))) rfl ?_
            refine Q_gt_on h5 rfl rfl ?_
            refine Q_v ((opv_addS rfl rfl (by rw [ByteArray.size_append, hz6, hz0, hz8]; omega)).as (v' := .string (summed s)) rfl) rfl ?_
            refine Q_gt_on h5 rfl rfl ?_
            refine Q_call (usum_spec x.a x.b (summed s) rfl rfl hx.a hx.b (by omega)) rfl rfl (fun _ _ => rfl) (fun _ _ => Ent.refl _) rfl ?_
            refine Q_gt_on h5 rfl rfl ?_
            first
              | refine Q_v (opv_neq rfl rfl) rfl ?_
              | refine Q_v (opv_neqS rfl rfl) rfl ?_
              | refine Q_v (opv_neqNil rfl rfl) rfl ?_
              | refine Q_v (opv_neqB rfl rfl) rfl ?_
            refine Q_v (opv_pick_t rfl h5 rfl) rfl ?_
            refine Q_v (opv_assign rfl) rfl ?_
            refine QL_nil ?_
            refine K_then ?_
            refine J_cond rfl (fun h6 => ?_) (fun h6 => ?_)
            · refine J_seq ?_
              refine J_region ?_
              refine L_v (opv_build rfl) rfl ?_
              refine L_x rfl (opx_store rfl rfl rfl (by simp [Value.oneCell'])) (fun _ _ => ?_)
              refine L_v (opv_assign rfl) rfl ?_
              refine L_v (opv_assign rfl) rfl ?_
              refine L_nil ?_
              refine K_then ?_
              refine J_ret ?_
              refine K_block_ret ?_
              refine K_then_ret ?_
              exact K_ret3c rfl rfl rfl rfl rfl () trivial (by rw [show decU x s = (enz, ByteArray.empty, 12) from by unfold decU; (repeat' split) <;> first | rfl | (exfalso; omega)]; rfl) Ent.take
            · refine J_skip ?_
              refine K_block ?_
              refine K_then ?_
              refine J_seq ?_
              refine J_steps (cel b10 [.int .u8 x.a0, .int .u8 x.a1, .int .u8 x.a2, .int .u8 x.a3, .int .u8 x.b0, .int .u8 x.b1, .int .u8 x.b2, .int .u8 x.b3, .int .i64 (word s 0 : Nat), .int .i64 (word s 2 : Nat)] 29) (cel b10 [.int .u8 x.a0, .int .u8 x.a1, .int .u8 x.a2, .int .u8 x.a3, .int .u8 x.b0, .int .u8 x.b1, .int .u8 x.b2, .int .u8 x.b3, .int .i64 (word s 0 : Nat), .int .i64 (word s 2 : Nat)] 29) [] Try.mixed ?_
              refine R_take 0 rfl (by kernel_rfl) (by kernel_rfl) (by kernel_rfl) (by kernel_rfl) (by kernel_rfl) (opv_loadS rfl) rfl ?_
              refine R_pure 1 rfl (by kernel_rfl) (by kernel_rfl) (by kernel_rfl) (by kernel_rfl) (.inr ⟨_, Take.eq (A := cel b10 [.int .u8 x.a0, .int .u8 x.a1, .int .u8 x.a2, .int .u8 x.a3, .int .u8 x.b0, .int .u8 x.b1, .int .u8 x.b2, .int .u8 x.b3, .int .i64 (word s 0 : Nat), .int .i64 (word s 2 : Nat)] 29)⟩) (opv_move rfl) rfl ?_
              refine R_only 2 rfl rfl (by kernel_rfl) (opx_call0 (Rest_ok p (s.extract 8 s.size)) rfl rfl rfl) (fun _ _ => ⟨_, Take.eq (A := cel b10 [.int .u8 x.a0, .int .u8 x.a1, .int .u8 x.a2, .int .u8 x.a3, .int .u8 x.b0, .int .u8 x.b1, .int .u8 x.b2, .int .u8 x.b3, .int .i64 (word s 0 : Nat), .int .i64 (word s 2 : Nat)] 29)⟩) (.inr fun _ _ => ⟨_, Take.eq (A := cel b10 [.int .u8 x.a0, .int .u8 x.a1, .int .u8 x.a2, .int .u8 x.a3, .int .u8 x.b0, .int .u8 x.b1, .int .u8 x.b2, .int .u8 x.b3, .int .i64 (word s 0 : Nat), .int .i64 (word s 2 : Nat)] 29)⟩) (fun _ _ => ?_)
              refine R_only 3 rfl rfl (by kernel_rfl) (opx_store rfl rfl rfl (by simp [Value.oneCell'])) (fun _ _ => ⟨_, Take.eq (A := cel b10 [.int .u8 x.a0, .int .u8 x.a1, .int .u8 x.a2, .int .u8 x.a3, .int .u8 x.b0, .int .u8 x.b1, .int .u8 x.b2, .int .u8 x.b3, .int .i64 (word s 0 : Nat), .int .i64 (word s 2 : Nat)] 29)⟩) (.inr fun _ _ => ⟨_, Take.eq (A := cel b10 [.int .u8 x.a0, .int .u8 x.a1, .int .u8 x.a2, .int .u8 x.a3, .int .u8 x.b0, .int .u8 x.b1, .int .u8 x.b2, .int .u8 x.b3, .int .i64 (word s 0 : Nat), .int .i64 (word s 2 : Nat)] 29)⟩) (fun _ _ => ?_)
              refine R_pure 4 rfl (by kernel_rfl) (by kernel_rfl) (by kernel_rfl) (by kernel_rfl) (.inr ⟨_, Take.eq (A := cel b10 [.int .u8 x.a0, .int .u8 x.a1, .int .u8 x.a2, .int .u8 x.a3, .int .u8 x.b0, .int .u8 x.b1, .int .u8 x.b2, .int .u8 x.b3, .int .i64 (word s 0 : Nat), .int .i64 (word s 2 : Nat)] 29)⟩) (opv_assign rfl) rfl ?_
              refine R_pure 5 rfl (by kernel_rfl) (by kernel_rfl) (by kernel_rfl) (by kernel_rfl) (.inr ⟨_, Take.eq (A := cel b10 [.int .u8 x.a0, .int .u8 x.a1, .int .u8 x.a2, .int .u8 x.a3, .int .u8 x.b0, .int .u8 x.b1, .int .u8 x.b2, .int .u8 x.b3, .int .i64 (word s 0 : Nat), .int .i64 (word s 2 : Nat)] 29)⟩) (opv_assign rfl) rfl ?_
              refine R_done (by kernel_rfl) ?_
              refine K_then ?_
              refine J_ret ?_
              exact K_ret3c rfl rfl rfl rfl rfl () trivial (by rw [show decU x s = (x.at (word s 0) (word s 2), s.extract 8 s.size, 0) from by unfold decU; (repeat' split) <;> first | rfl | (exfalso; omega)]; rfl) Ent.take
          · refine Q_gt_off h5 rfl rfl ?_ (fun _ h => by cases h; rfl)
            refine Q_gt_off h5 rfl rfl ?_ (fun _ h => by cases h; rfl)
            refine Q_gt_off h5 rfl rfl ?_ (fun _ h => by cases h; rfl)
            refine Q_gt_off h5 rfl rfl ?_ (fun _ h => by cases h; rfl)
            refine Q_gt_off h5 rfl rfl ?_ (fun _ h => by cases h; rfl)
            refine Q_gt_off h5 rfl rfl ?_ (fun _ h => by cases h; rfl)
            refine Q_gt_off h5 rfl rfl ?_ (fun _ h => by cases h; rfl)
            refine Q_gt_off h5 rfl rfl ?_ (fun _ h => by cases h; rfl)
            refine Q_gt_off h5 rfl rfl ?_ (fun _ h => by cases h; rfl)
            refine Q_gt_off h5 rfl rfl ?_ (fun _ h => by cases h; rfl)
            refine Q_v (opv_pick_f rfl h5 rfl) rfl ?_
            refine Q_v (opv_assign rfl) rfl ?_
            refine QL_nil ?_
            refine K_then ?_
            refine J_cond_false rfl ?_
            refine J_skip ?_
            refine K_block ?_
            refine K_then ?_
            refine J_seq ?_
            refine J_steps (cel b10 [.int .u8 x.a0, .int .u8 x.a1, .int .u8 x.a2, .int .u8 x.a3, .int .u8 x.b0, .int .u8 x.b1, .int .u8 x.b2, .int .u8 x.b3, .int .i64 (word s 0 : Nat), .int .i64 (word s 2 : Nat)] 29) (cel b10 [.int .u8 x.a0, .int .u8 x.a1, .int .u8 x.a2, .int .u8 x.a3, .int .u8 x.b0, .int .u8 x.b1, .int .u8 x.b2, .int .u8 x.b3, .int .i64 (word s 0 : Nat), .int .i64 (word s 2 : Nat)] 29) [] Try.mixed ?_
            refine R_take 0 rfl (by kernel_rfl) (by kernel_rfl) (by kernel_rfl) (by kernel_rfl) (by kernel_rfl) (opv_loadS rfl) rfl ?_
            refine R_pure 1 rfl (by kernel_rfl) (by kernel_rfl) (by kernel_rfl) (by kernel_rfl) (.inr ⟨_, Take.eq (A := cel b10 [.int .u8 x.a0, .int .u8 x.a1, .int .u8 x.a2, .int .u8 x.a3, .int .u8 x.b0, .int .u8 x.b1, .int .u8 x.b2, .int .u8 x.b3, .int .i64 (word s 0 : Nat), .int .i64 (word s 2 : Nat)] 29)⟩) (opv_move rfl) rfl ?_
            refine R_only 2 rfl rfl (by kernel_rfl) (opx_call0 (Rest_ok p (s.extract 8 s.size)) rfl rfl rfl) (fun _ _ => ⟨_, Take.eq (A := cel b10 [.int .u8 x.a0, .int .u8 x.a1, .int .u8 x.a2, .int .u8 x.a3, .int .u8 x.b0, .int .u8 x.b1, .int .u8 x.b2, .int .u8 x.b3, .int .i64 (word s 0 : Nat), .int .i64 (word s 2 : Nat)] 29)⟩) (.inr fun _ _ => ⟨_, Take.eq (A := cel b10 [.int .u8 x.a0, .int .u8 x.a1, .int .u8 x.a2, .int .u8 x.a3, .int .u8 x.b0, .int .u8 x.b1, .int .u8 x.b2, .int .u8 x.b3, .int .i64 (word s 0 : Nat), .int .i64 (word s 2 : Nat)] 29)⟩) (fun _ _ => ?_)
            refine R_only 3 rfl rfl (by kernel_rfl) (opx_store rfl rfl rfl (by simp [Value.oneCell'])) (fun _ _ => ⟨_, Take.eq (A := cel b10 [.int .u8 x.a0, .int .u8 x.a1, .int .u8 x.a2, .int .u8 x.a3, .int .u8 x.b0, .int .u8 x.b1, .int .u8 x.b2, .int .u8 x.b3, .int .i64 (word s 0 : Nat), .int .i64 (word s 2 : Nat)] 29)⟩) (.inr fun _ _ => ⟨_, Take.eq (A := cel b10 [.int .u8 x.a0, .int .u8 x.a1, .int .u8 x.a2, .int .u8 x.a3, .int .u8 x.b0, .int .u8 x.b1, .int .u8 x.b2, .int .u8 x.b3, .int .i64 (word s 0 : Nat), .int .i64 (word s 2 : Nat)] 29)⟩) (fun _ _ => ?_)
            refine R_pure 4 rfl (by kernel_rfl) (by kernel_rfl) (by kernel_rfl) (by kernel_rfl) (.inr ⟨_, Take.eq (A := cel b10 [.int .u8 x.a0, .int .u8 x.a1, .int .u8 x.a2, .int .u8 x.a3, .int .u8 x.b0, .int .u8 x.b1, .int .u8 x.b2, .int .u8 x.b3, .int .i64 (word s 0 : Nat), .int .i64 (word s 2 : Nat)] 29)⟩) (opv_assign rfl) rfl ?_
            refine R_pure 5 rfl (by kernel_rfl) (by kernel_rfl) (by kernel_rfl) (by kernel_rfl) (.inr ⟨_, Take.eq (A := cel b10 [.int .u8 x.a0, .int .u8 x.a1, .int .u8 x.a2, .int .u8 x.a3, .int .u8 x.b0, .int .u8 x.b1, .int .u8 x.b2, .int .u8 x.b3, .int .i64 (word s 0 : Nat), .int .i64 (word s 2 : Nat)] 29)⟩) (opv_assign rfl) rfl ?_
            refine R_done (by kernel_rfl) ?_
            refine K_then ?_
            refine J_ret ?_
            exact K_ret3c rfl rfl rfl rfl rfl () trivial (by rw [show decU x s = (x.at (word s 0) (word s 2), s.extract 8 s.size, 0) from by unfold decU; (repeat' split) <;> first | rfl | (exfalso; omega)]; rfl) Ent.take
  · refine L_gf_off h1 rfl rfl ?_ (fun _ h => by cases h; rfl)
    refine L_v (opv_pick_t rfl h1 rfl) rfl ?_
    refine L_v (opv_assign rfl) rfl ?_
    refine L_nil ?_
    refine K_then ?_
    refine J_cond_true rfl ?_
    refine J_seq ?_
    refine J_region ?_
    refine L_v (opv_build rfl) rfl ?_
    refine L_x rfl (opx_store rfl rfl rfl (by simp [Value.oneCell'])) (fun _ _ => ?_)
    refine L_v (opv_assign rfl) rfl ?_
    refine L_v (opv_assign rfl) rfl ?_
    refine L_nil ?_
    refine K_then ?_
    refine J_ret ?_
    refine K_block_ret ?_
    refine K_then_ret ?_
    exact K_ret3c rfl rfl rfl rfl rfl () trivial (by rw [show decU x s = (enz, ByteArray.empty, 15) from by unfold decU; (repeat' split) <;> first | rfl | (exfalso; omega)]; rfl) Ent.take


theorem UDecode_spec (x : En) (s : ByteArray) (hx : okEn x) (hs : s.size ≤ 1000000) : FSpec Try.prog 34 #[.agg [.int .u8 x.a0, .int .u8 x.a1, .int .u8 x.a2, .int .u8 x.a3].toArray, .agg [.int .u8 x.b0, .int .u8 x.b1, .int .u8 x.b2, .int .u8 x.b3].toArray, .string s] emp (fun _ : Unit => True) (fun _ => .tuple #[.agg (encEn (decU x s).1).toArray, .string (decU x s).2.1, .int .i64 (decU x s).2.2]) (fun _ => emp) := by
  by_cases h : s.size < 8
  · exact UDecode_short x s h
  · exact UDecode_long x s hx h hs

end Go.Proofs.Ytdmlcnecildliaa
