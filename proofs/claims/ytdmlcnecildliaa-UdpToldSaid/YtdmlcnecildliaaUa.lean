/- Contracts of functions of the translation, each proved by a walk over its code; they are used by the texts that import this one. -/
import Derived.Test.YtdmlcnecildliaaBh
import Derived.Test.YtdmlcnecildliaaH
namespace Go.Proofs.Ytdmlcnecildliaa
open Go.SLA
set_option maxRecDepth 100000
set_option linter.unusedVariables false
set_option linter.unusedSimpArgs false
attribute [local irreducible] J L K QL Rg FSpec OpV OpX Rd Back

/-- The sum of a datagram. -/
def sumT (a b : List Int) (t : ByteArray) : ByteArray := bytesL a ++ bytesL b ++ be 17 2 ++ be t.size 2 ++ t
def usum (a b : List Int) (t : ByteArray) : Nat := if ones (sumT a b t) = 0 then 65535 else ones (sumT a b t)

theorem usum_spec (a b : List Int) (t : ByteArray) (ha : a.length = 4) (hb : b.length = 4) (ha2 : ∀ v ∈ a, 0 ≤ v ∧ v < 256) (hb2 : ∀ v ∈ b, 0 ≤ v ∧ v < 256) (ht : t.size ≤ 65535) : FSpec Try.prog 45 #[.agg (a.map (.int .u8)).toArray, .agg (b.map (.int .u8)).toArray, .string t] (emp) (fun _ : Unit => True) (fun _ => .int .i64 (usum a b t)) (fun _ => emp) := by
  have hT : bytesL [] ++ (bytesL a ++ bytesL b) ++ be 17 2 ++ be t.size 2 ++ t = sumT a b t := by unfold sumT; rw [show bytesL [] ++ (bytesL a ++ bytesL b) = bytesL a ++ bytesL b from by show ByteArray.empty ++ _ = _; simp]
  have hz1 : (bytesL [] ++ (bytesL a ++ bytesL b)).size = 8 := by rw [ByteArray.size_append, ByteArray.size_append, bytesL_size, bytesL_size, bytesL_size, ha, hb]; rfl
  have hz2 : (bytesL [] ++ (bytesL a ++ bytesL b) ++ be 17 2).size = 10 := by rw [ByteArray.size_append, hz1, be_size]
  have hz3 : (bytesL [] ++ (bytesL a ++ bytesL b) ++ be 17 2 ++ be t.size 2).size = 12 := by rw [ByteArray.size_append, hz2, be_size]
  have hz4 : (sumT a b t).size = 12 + t.size := by rw [← hT, ByteArray.size_append, hz3]
  refine FSpec.enter' Try.func45 rfl Try.ntmps45 rfl fun σ F => ?_
  refine J_emp ?_
  refine J_seq ?_
  refine J_region ?_
  refine L_x rfl (opx_box rfl rfl) (fun b3 _ => ?_)
  refine L_x rfl (opx_box rfl rfl) (fun b4 _ => ?_)
  refine L_v (opv_assign rfl) rfl ?_
  refine L_nil ?_
  refine K_then ?_
  refine J_seq ?_
  refine J_region ?_
  refine L_v (opv_build rfl) rfl ?_
  refine L_x rfl (opx_box rfl rfl) (fun p _ => ?_)
  refine L_v (opv_assign rfl) rfl ?_
  refine L_nil ?_
  refine K_then ?_
  refine J_seq ?_
  refine J_imp (sep (WrP p (bytesL []) false) ((sep (cel b4 (b.map (.int .u8)) 27) ((sep (cel b3 (a.map (.int .u8)) 27) (F)))))) WrP_new ?_
  refine J_steps ((sep (cel b4 (b.map (.int .u8)) 27) (cel b3 (a.map (.int .u8)) 27))) ((sep (cel b4 (b.map (.int .u8)) 27) (cel b3 (a.map (.int .u8)) 27))) [] Try.mixed ?_
  refine R_pure 0 rfl (by kernel_rfl) (by kernel_rfl) (by kernel_rfl) (by kernel_rfl) (.inr ⟨_, Take.eq (A := (sep (cel b4 (b.map (.int .u8)) 27) (cel b3 (a.map (.int .u8)) 27)))⟩) (opv_move rfl) rfl ?_
  refine R_pure 1 rfl (by kernel_rfl) (by kernel_rfl) (by kernel_rfl) (by kernel_rfl) (.inr ⟨_, Take.eq (A := (sep (cel b4 (b.map (.int .u8)) 27) (cel b3 (a.map (.int .u8)) 27)))⟩) (opv_sliceA rfl) rfl ?_
  refine R_pure 2 rfl (by kernel_rfl) (by kernel_rfl) (by kernel_rfl) (by kernel_rfl) (.inr ⟨_, Take.eq (A := (sep (cel b4 (b.map (.int .u8)) 27) (cel b3 (a.map (.int .u8)) 27)))⟩) (opv_b2sL a rfl rfl ha.symm ha2) rfl ?_
  refine R_pure 3 rfl (by kernel_rfl) (by kernel_rfl) (by kernel_rfl) (by kernel_rfl) (.inr ⟨_, Take.eq (A := (sep (cel b4 (b.map (.int .u8)) 27) (cel b3 (a.map (.int .u8)) 27)))⟩) (opv_sliceA rfl) rfl ?_
  refine R_pure 4 rfl (by kernel_rfl) (by kernel_rfl) (by kernel_rfl) (by kernel_rfl) (.inr ⟨_, Take.eq (A := (sep (cel b4 (b.map (.int .u8)) 27) (cel b3 (a.map (.int .u8)) 27)))⟩) (opv_b2sL b rfl rfl hb.symm hb2) rfl ?_
  refine R_pure 5 rfl (by kernel_rfl) (by kernel_rfl) (by kernel_rfl) (by kernel_rfl) (.inr ⟨_, Take.eq (A := (sep (cel b4 (b.map (.int .u8)) 27) (cel b3 (a.map (.int .u8)) 27)))⟩) (opv_addS rfl rfl (by rw [bytesL_size, bytesL_size]; omega)) rfl ?_
  refine R_only 6 rfl rfl (by kernel_rfl) (opx_call0 (WText_ok p (bytesL []) (bytesL a ++ bytesL b) (by decide) (by rw [ByteArray.size_append, bytesL_size, bytesL_size]; omega)) rfl rfl rfl) (fun _ _ => ⟨_, Take.eq (A := (sep (cel b4 (b.map (.int .u8)) 27) (cel b3 (a.map (.int .u8)) 27)))⟩) (.inr fun _ _ => ⟨_, Take.eq (A := (sep (cel b4 (b.map (.int .u8)) 27) (cel b3 (a.map (.int .u8)) 27)))⟩) (fun _ _ => ?_)
  refine R_done (by kernel_rfl) ?_
  refine K_then ?_
  refine J_seq ?_
  refine J_region ?_
  refine L_v (opv_move rfl) rfl ?_
  refine L_x rfl (opx_call0 (U16_ok p (bytesL [] ++ (bytesL a ++ bytesL b)) 17 (by decide) (by omega)) rfl rfl rfl) (fun _ _ => ?_)
  refine L_nil ?_
  refine K_then ?_
  refine J_seq ?_
  refine J_region ?_
  refine L_v (opv_move rfl) rfl ?_
  refine L_v (opv_move rfl) rfl ?_
  first
    | refine L_v (opv_lenL rfl) rfl ?_
    | refine L_v (opv_lenS rfl) rfl ?_
  refine L_x rfl (opx_call0 (U16_ok p (bytesL [] ++ (bytesL a ++ bytesL b) ++ be 17 2) t.size ht (by omega)) rfl rfl rfl) (fun _ _ => ?_)
  refine L_nil ?_
  refine K_then ?_
  refine J_seq ?_
  refine J_region ?_
  refine L_v (opv_move rfl) rfl ?_
  refine L_v (opv_move rfl) rfl ?_
  refine L_x rfl (opx_call0 (WText_ok p (bytesL [] ++ (bytesL a ++ bytesL b) ++ be 17 2 ++ be t.size 2) t (by omega) (by omega)) rfl rfl rfl) (fun _ _ => ?_)
  refine L_nil ?_
  refine K_then ?_
  refine J_seq ?_
  refine J_region ?_
  refine L_v (opv_move rfl) rfl ?_
  refine L_x rfl (opx_call0 (Bytes_ok p (bytesL [] ++ (bytesL a ++ bytesL b) ++ be 17 2 ++ be t.size 2 ++ t)) rfl rfl rfl) (fun _ _ => ?_)
  refine L_v (opv_move rfl) rfl ?_
  refine L_v (opv_extract rfl rfl) rfl ?_
  refine L_v (opv_extract rfl rfl) rfl ?_
  refine L_v (opv_assign rfl) rfl ?_
  refine L_v (opv_assign rfl) rfl ?_
  refine L_nil ?_
  refine K_then ?_
  refine J_seq ?_
  refine J_seq ?_
  refine J_region ?_
  rw [hT]
  refine L_v (opv_move rfl) rfl ?_
  refine L_x rfl (opx_call0 (Ones_spec (sumT a b t) (by omega)) rfl rfl rfl) (fun _ _ => ?_)
  refine L_emp ?_
  refine L_v (opv_assign rfl) rfl ?_
  refine L_nil ?_
  refine K_then ?_
  refine J_seq ?_
  refine J_region ?_
  refine L_v (opv_move rfl) rfl ?_
  first
    | refine L_v (opv_neq rfl rfl) rfl ?_
    | refine L_v (opv_neqS rfl rfl) rfl ?_
    | refine L_v (opv_neqNil rfl rfl) rfl ?_
    | refine L_v (opv_neqB rfl rfl) rfl ?_
  refine L_nil ?_
  refine K_then ?_
  refine J_cond rfl (fun h1 => ?_) (fun h1 => ?_)
  · refine J_seq ?_
    refine J_region ?_
    refine L_v (opv_move rfl) rfl ?_
    refine L_v (opv_assign rfl) rfl ?_
    refine L_nil ?_
    refine K_then ?_
    refine J_ret ?_
    refine K_then_ret ?_
    exact K_ret1 rfl rfl () trivial (by rw [usum, if_neg (by omega)]) Ent.take
  · refine J_skip ?_
    refine K_then ?_
    refine J_seq ?_
    refine J_region ?_
    refine L_v (opv_assign rfl) rfl ?_
    refine L_nil ?_
    refine K_then ?_
    refine J_ret ?_
    exact K_ret1 rfl rfl () trivial (by rw [usum, if_pos (by omega)]; rfl) Ent.take

end Go.Proofs.Ytdmlcnecildliaa
