/- Contracts of strings.Builder, each proved by a walk over its code; they are used by the texts that import this one. -/
import Derived.Test.YtkkoepnljofhpaaDoorAf
import Derived.Test.YtkkoepnljofhpaaDoorU
import Derived.Test.YtkkoepnljofhpaaDoorQ
import Derived.Test.YtkkoepnljofhpaaDoorH
namespace Go.Proofs.YtkkoepnljofhpaaDoor
open Go.SLA
set_option maxRecDepth 100000
set_option linter.unusedVariables false
set_option linter.unusedSimpArgs false
attribute [local irreducible] J L K QL Rg FSpec OpV OpX Rd Back

instance : UpT Tryd.prog 109 155 111 2 := ⟨by kernel_rfl⟩
instance : NoEsc Tryd.prog 102 := ⟨⟨Tryd.f102, Tryd.func102, by kernel_rfl, by kernel_rfl, by kernel_rfl, by kernel_rfl⟩⟩
instance : PtrE Tryd.prog 137 5 := ⟨by kernel_rfl⟩

theorem cc_new (b : Nat) (v : Value) : FSpec Tryd.prog 84 #[.pointer (some (ad b 0))] (cel b [.pointer none, v] 111) (fun _ : Unit => True) (fun _ => .tuple #[]) (fun _ => cel b [.pointer (some (ad b 0)), v] 111) := by
  refine FSpec.enter' Tryd.func84 rfl Tryd.ntmps84 rfl fun σ F => ?_
  refine J_seq ?_
  refine J_region ?_
  refine L_v (opv_move rfl) rfl ?_
  refine L_v (opv_nilCheck rfl) rfl ?_
  first
    | refine L_v (opv_fieldAddr0 rfl) rfl ?_
    | refine L_v (opv_fieldAddr rfl) rfl ?_
  refine L_v (opv_load rfl (Rd.look rfl)) rfl ?_
  first
    | refine L_v (opv_eql rfl rfl) rfl ?_
    | refine L_v (opv_eqlS rfl rfl) rfl ?_
    | refine L_v (opv_eqlNil rfl rfl) rfl ?_
    | refine L_v (opv_eqlB rfl rfl) rfl ?_
  refine L_nil ?_
  refine K_then ?_
  refine J_cond_true rfl ?_
  refine J_region ?_
  refine L_v (opv_move rfl) rfl ?_
  refine L_v (opv_move rfl) rfl ?_
  refine L_v (opv_toUnsafe rfl rfl) rfl ?_
  refine L_x rfl (opx_noEscape rfl rfl) (fun _ _ => ?_)
  refine L_v (opv_fromUnsafe rfl rfl) rfl ?_
  refine L_v (opv_nilCheck rfl) rfl ?_
  first
    | refine L_v (opv_fieldAddr0 rfl) rfl ?_
    | refine L_v (opv_fieldAddr rfl) rfl ?_
  refine L_x rfl (opx_store rfl rfl rfl (by simp [Value.oneCell'])) (fun _ _ => ?_)
  refine L_nil ?_
  exact K_end0 rfl () trivial rfl Ent.take

theorem cc_old (b : Nat) (v : Value) : FSpec Tryd.prog 84 #[.pointer (some (ad b 0))] (cel b [.pointer (some (ad b 0)), v] 111) (fun _ : Unit => True) (fun _ => .tuple #[]) (fun _ => cel b [.pointer (some (ad b 0)), v] 111) := by
  refine FSpec.enter' Tryd.func84 rfl Tryd.ntmps84 rfl fun σ F => ?_
  refine J_seq ?_
  refine J_region ?_
  refine L_v (opv_move rfl) rfl ?_
  refine L_v (opv_nilCheck rfl) rfl ?_
  first
    | refine L_v (opv_fieldAddr0 rfl) rfl ?_
    | refine L_v (opv_fieldAddr rfl) rfl ?_
  refine L_v (opv_load rfl (Rd.look rfl)) rfl ?_
  first
    | refine L_v (opv_eql rfl rfl) rfl ?_
    | refine L_v (opv_eqlS rfl rfl) rfl ?_
    | refine L_v (opv_eqlNil rfl rfl) rfl ?_
    | refine L_v (opv_eqlB rfl rfl) rfl ?_
  refine L_nil ?_
  refine K_then ?_
  refine J_cond_false rfl ?_
  refine J_seq ?_
  refine J_region ?_
  refine L_v (opv_move rfl) rfl ?_
  refine L_v (opv_nilCheck rfl) rfl ?_
  first
    | refine L_v (opv_fieldAddr0 rfl) rfl ?_
    | refine L_v (opv_fieldAddr rfl) rfl ?_
  refine L_v (opv_load rfl (Rd.look rfl)) rfl ?_
  refine L_v (opv_move rfl) rfl ?_
  refine L_v (opv_neqPtr rfl rfl) rfl ?_
  refine L_nil ?_
  refine K_then ?_
  refine J_cond_false rfl ?_
  refine J_skip ?_
  exact K_end0 rfl () trivial rfl Ent.take

theorem cc_any (b : Nat) (q : Option Addr) (v : Value) (hq : q = none ∨ q = some (ad b 0)) : FSpec Tryd.prog 84 #[.pointer (some (ad b 0))] (cel b [.pointer q, v] 111) (fun _ : Unit => True) (fun _ => .tuple #[]) (fun _ => cel b [.pointer (some (ad b 0)), v] 111) := by
  rcases hq with rfl | rfl
  · exact cc_new b v
  · exact cc_old b v

theorem BWrite (b : Nat) (q : Option Addr) (u : Option Addr × Nat) (s t : ByteArray) (hq : q = none ∨ q = some (ad b 0)) (h : s.size + t.size ≤ 1000000000) : FSpec Tryd.prog 59 #[.pointer (some (ad b 0)), .string t] ((sep (cel b [.pointer q, .slice u.1 (s).size u.2] 111) (OwnZ 5 u s))) (fun u' : Option Addr × Nat => True) (fun u' => .tuple #[.int .i64 t.size, .nilIface]) (fun u' => (sep (cel b [.pointer (some (ad b 0)), .slice u'.1 ((s ++ t)).size u'.2] 111) (OwnZ 5 u' (s ++ t)))) := by
  refine FSpec.enter' Tryd.func59 rfl Tryd.ntmps59 rfl fun σ F => ?_
  refine J_seq ?_
  refine J_region ?_
  refine L_v (opv_assign rfl) rfl ?_
  refine L_v (opv_assign rfl) rfl ?_
  refine L_nil ?_
  refine K_then ?_
  refine J_seq ?_
  refine J_region ?_
  refine L_v (opv_move rfl) rfl ?_
  refine L_x rfl (opx_call0 (cc_any b q (.slice u.1 (s).size u.2) hq) rfl rfl rfl) (fun _ _ => ?_)
  refine L_nil ?_
  refine K_then ?_
  refine J_seq ?_
  refine J_region ?_
  refine L_v (opv_move rfl) rfl ?_
  refine L_v (opv_move rfl) rfl ?_
  refine L_v (opv_nilCheck rfl) rfl ?_
  first
    | refine L_v (opv_fieldAddr0 rfl) rfl ?_
    | refine L_v (opv_fieldAddr rfl) rfl ?_
  refine L_v (opv_load rfl (Rd.look rfl)) rfl ?_
  refine L_v (opv_move rfl) rfl ?_
  refine L_x rfl (opx_appendZ rfl rfl rfl rfl (by unfold maxLen; omega) (by omega) rfl) (fun y14 _ => ?_)
  refine L_v (opv_nilCheck rfl) rfl ?_
  first
    | refine L_v (opv_fieldAddr0 rfl) rfl ?_
    | refine L_v (opv_fieldAddr rfl) rfl ?_
  refine L_x rfl (opx_store rfl rfl rfl (by simp [Value.oneCell'])) (fun _ _ => ?_)
  refine L_nil ?_
  refine K_then ?_
  refine J_seq ?_
  refine J_region ?_
  refine L_v (opv_move rfl) rfl ?_
  first
    | refine L_v (opv_lenL rfl) rfl ?_
    | refine L_v (opv_lenS rfl) rfl ?_
  refine L_v (opv_assign rfl) rfl ?_
  refine L_v (opv_assign rfl) rfl ?_
  refine L_nil ?_
  refine K_then ?_
  refine J_ret ?_
  exact K_ret2 rfl rfl rfl y14 trivial rfl (Ent.take (Q := (sep ((sep (cel b [.pointer (some (ad b 0)), .slice y14.1 ((s ++ t)).size y14.2] 111) (OwnZ 5 y14 (s ++ t)))) (F))))

theorem BString (b : Nat) (q : Option Addr) (u : Option Addr × Nat) (s : ByteArray) : FSpec Tryd.prog 60 #[.pointer (some (ad b 0))] ((sep (cel b [.pointer q, .slice u.1 (s).size u.2] 111) (OwnZ 5 u s))) (fun _ : Unit => True) (fun _ => .string s) (fun _ => cel b [.pointer q, .slice u.1 (s).size u.2] 111) := by
  refine FSpec.enter' Tryd.func60 rfl Tryd.ntmps60 rfl fun σ F => ?_
  refine J_eq _ (sep_assoc _ _ _) ?_
  refine J_seq ?_
  refine J_region ?_
  refine L_v (opv_assign rfl) rfl ?_
  refine L_nil ?_
  refine K_then ?_
  refine J_seq ?_
  refine J_steps (cel b [.pointer q, .slice u.1 (s).size u.2] 111) (cel b [.pointer q, .slice u.1 (s).size u.2] 111) [] Tryd.mixed ?_
  refine R_pure 0 rfl (by kernel_rfl) (by kernel_rfl) (by kernel_rfl) (by kernel_rfl) (.inr ⟨_, Take.eq (A := cel b [.pointer q, .slice u.1 (s).size u.2] 111)⟩) (opv_move rfl) rfl ?_
  refine R_pure 1 rfl (by kernel_rfl) (by kernel_rfl) (by kernel_rfl) (by kernel_rfl) (.inr ⟨_, Take.eq (A := cel b [.pointer q, .slice u.1 (s).size u.2] 111)⟩) (opv_nilCheck rfl) rfl ?_
  first
    | refine R_pure 2 rfl (by kernel_rfl) (by kernel_rfl) (by kernel_rfl) (by kernel_rfl) (.inr ⟨_, Take.eq (A := cel b [.pointer q, .slice u.1 (s).size u.2] 111)⟩) (opv_fieldAddr0 rfl) rfl ?_
    | refine R_pure 2 rfl (by kernel_rfl) (by kernel_rfl) (by kernel_rfl) (by kernel_rfl) (.inr ⟨_, Take.eq (A := cel b [.pointer q, .slice u.1 (s).size u.2] 111)⟩) (opv_fieldAddr rfl) rfl ?_
  refine R_take 3 rfl (by kernel_rfl) (by kernel_rfl) (by kernel_rfl) (by kernel_rfl) (by kernel_rfl) (opv_load rfl (Rd.look rfl)) rfl ?_
  refine R_pure 5 rfl (by kernel_rfl) (by kernel_rfl) (by kernel_rfl) (by kernel_rfl) (.inr ⟨_, Take.eq (A := cel b [.pointer q, .slice u.1 (s).size u.2] 111)⟩) (opv_move rfl) rfl ?_
  refine R_pure 6 rfl (by kernel_rfl) (by kernel_rfl) (by kernel_rfl) (by kernel_rfl) (.inr ⟨_, Take.eq (A := cel b [.pointer q, .slice u.1 (s).size u.2] 111)⟩) (opv_nilCheck rfl) rfl ?_
  first
    | refine R_pure 7 rfl (by kernel_rfl) (by kernel_rfl) (by kernel_rfl) (by kernel_rfl) (.inr ⟨_, Take.eq (A := cel b [.pointer q, .slice u.1 (s).size u.2] 111)⟩) (opv_fieldAddr0 rfl) rfl ?_
    | refine R_pure 7 rfl (by kernel_rfl) (by kernel_rfl) (by kernel_rfl) (by kernel_rfl) (.inr ⟨_, Take.eq (A := cel b [.pointer q, .slice u.1 (s).size u.2] 111)⟩) (opv_fieldAddr rfl) rfl ?_
  refine R_take 8 rfl (by kernel_rfl) (by kernel_rfl) (by kernel_rfl) (by kernel_rfl) (by kernel_rfl) (opv_load rfl (Rd.look rfl)) rfl ?_
  first
    | refine R_pure 9 rfl (by kernel_rfl) (by kernel_rfl) (by kernel_rfl) (by kernel_rfl) (.inr ⟨_, Take.eq (A := cel b [.pointer q, .slice u.1 (s).size u.2] 111)⟩) (opv_lenL rfl) rfl ?_
    | refine R_pure 9 rfl (by kernel_rfl) (by kernel_rfl) (by kernel_rfl) (by kernel_rfl) (.inr ⟨_, Take.eq (A := cel b [.pointer q, .slice u.1 (s).size u.2] 111)⟩) (opv_lenS rfl) rfl ?_
  refine R_only 4 rfl rfl (by kernel_rfl) (opx_sliceData (e := 5) (u := u) rfl rfl) (fun _ _ => ⟨_, Take.eq (A := cel b [.pointer q, .slice u.1 (s).size u.2] 111)⟩) (.inr fun _ _ => ⟨_, Take.eq (A := cel b [.pointer q, .slice u.1 (s).size u.2] 111)⟩) (fun q4 hq4 => ?_)
  refine R_only 10 rfl rfl (by kernel_rfl) (opx_unsafeString (e := 5) (u := u) rfl rfl rfl hq4 rfl) (fun _ _ => ⟨_, Take.eq (A := cel b [.pointer q, .slice u.1 (s).size u.2] 111)⟩) (.inr fun _ _ => ⟨_, Take.eq (A := cel b [.pointer q, .slice u.1 (s).size u.2] 111)⟩) (fun _ _ => ?_)
  refine R_pure 11 rfl (by kernel_rfl) (by kernel_rfl) (by kernel_rfl) (by kernel_rfl) (.inr ⟨_, Take.eq (A := cel b [.pointer q, .slice u.1 (s).size u.2] 111)⟩) (opv_assign rfl) rfl ?_
  refine R_done (by kernel_rfl) ?_
  refine K_then ?_
  refine J_ret ?_
  exact K_ret1 rfl rfl () trivial (rfl) Ent.take


instance : NoZ Tryd.prog 103 89 5 := ⟨⟨Tryd.f103, _, Tryd.func103, by kernel_rfl, by kernel_rfl, by kernel_rfl, rfl, by kernel_rfl⟩⟩

end Go.Proofs.YtkkoepnljofhpaaDoor
