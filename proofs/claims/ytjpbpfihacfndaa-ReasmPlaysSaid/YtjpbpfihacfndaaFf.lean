/- Contracts of frag.Join and of the functions that it calls, each proved by a walk over its code; they are used by the texts that import this one. -/
import Derived.Test.YtjpbpfihacfndaaFc
import Derived.Test.YtjpbpfihacfndaaU
import Derived.Test.YtjpbpfihacfndaaO
import Derived.Test.YtjpbpfihacfndaaZ
import Derived.Test.YtjpbpfihacfndaaH
namespace Go.Proofs.Ytjpbpfihacfndaa
open Go.SLA
set_option maxRecDepth 100000
set_option linter.unusedVariables false
set_option linter.unusedSimpArgs false
attribute [local irreducible] J L K QL Rg FSpec OpV OpX Rd Back

instance : UpT Try.prog 85 130 88 2 := ⟨by kernel_rfl⟩
instance : NoEsc Try.prog 74 := ⟨⟨Try.f74, Try.func74, by kernel_rfl, by kernel_rfl, by kernel_rfl, by kernel_rfl⟩⟩
instance : PtrE Try.prog 122 5 := ⟨by kernel_rfl⟩

theorem cc_new (b : Nat) (v : Value) : FSpec Try.prog 68 #[.pointer (some (ad b 0))] (cel b [.pointer none, v] 88) (fun _ : Unit => True) (fun _ => .tuple #[]) (fun _ => cel b [.pointer (some (ad b 0)), v] 88) := by
  refine FSpec.enter' Try.func68 rfl Try.ntmps68 rfl fun σ F => ?_
  refine J_seq ?_
  refine J_region ?_
  refine L_v (opv_move rfl) rfl ?_
  refine L_v (opv_nilCheck rfl) rfl ?_
  first
    | refine L_v (opv_fieldAddr0 rfl) rfl ?_
    | refine L_v (opv_fieldAddr rfl) rfl ?_
  refine L_v (opv_load rfl (Rd.look rfl)) rfl ?_
  first
    | refine L_v (opv_eql rfl rfl) rfl ?_
    | refine L_v (opv_eqlS rfl rfl) rfl ?_
    | refine L_v (opv_eqlNil rfl rfl) rfl ?_
    | refine L_v (opv_eqlB rfl rfl) rfl ?_
  refine L_nil ?_
  refine K_then ?_
  refine J_cond_true rfl ?_
  refine J_region ?_
  refine L_v (opv_move rfl) rfl ?_
  refine L_v (opv_move rfl) rfl ?_
  refine L_v (opv_toUnsafe rfl rfl) rfl ?_
  refine L_x rfl (opx_noEscape rfl rfl) (fun _ _ => ?_)
  refine L_v (opv_fromUnsafe rfl rfl) rfl ?_
  refine L_v (opv_nilCheck rfl) rfl ?_
  first
    | refine L_v (opv_fieldAddr0 rfl) rfl ?_
    | refine L_v (opv_fieldAddr rfl) rfl ?_
  refine L_x rfl (opx_store rfl rfl rfl (by simp [Value.oneCell'])) (fun _ _ => ?_)
  refine L_nil ?_
  exact K_end0 rfl () trivial rfl Ent.take

theorem cc_old (b : Nat) (v : Value) : FSpec Try.prog 68 #[.pointer (some (ad b 0))] (cel b [.pointer (some (ad b 0)), v] 88) (fun _ : Unit => True) (fun _ => .tuple #[]) (fun _ => cel b [.pointer (some (ad b 0)), v] 88) := by
  refine FSpec.enter' Try.func68 rfl Try.ntmps68 rfl fun σ F => ?_
  refine J_seq ?_
  refine J_region ?_
  refine L_v (opv_move rfl) rfl ?_
  refine L_v (opv_nilCheck rfl) rfl ?_
  first
    | refine L_v (opv_fieldAddr0 rfl) rfl ?_
    | refine L_v (opv_fieldAddr rfl) rfl ?_
  refine L_v (opv_load rfl (Rd.look rfl)) rfl ?_
  first
    | refine L_v (opv_eql rfl rfl) rfl ?_
    | refine L_v (opv_eqlS rfl rfl) rfl ?_
    | refine L_v (opv_eqlNil rfl rfl) rfl ?_
    | refine L_v (opv_eqlB rfl rfl) rfl ?_
  refine L_nil ?_
  refine K_then ?_
  refine J_cond_false rfl ?_
  refine J_seq ?_
  refine J_region ?_
  refine L_v (opv_move rfl) rfl ?_
  refine L_v (opv_nilCheck rfl) rfl ?_
  first
    | refine L_v (opv_fieldAddr0 rfl) rfl ?_
    | refine L_v (opv_fieldAddr rfl) rfl ?_
  refine L_v (opv_load rfl (Rd.look rfl)) rfl ?_
  refine L_v (opv_move rfl) rfl ?_
  refine L_v (opv_neqPtr rfl rfl) rfl ?_
  refine L_nil ?_
  refine K_then ?_
  refine J_cond_false rfl ?_
  refine J_skip ?_
  exact K_end0 rfl () trivial rfl Ent.take

theorem cc_any (b : Nat) (q : Option Addr) (v : Value) (hq : q = none ∨ q = some (ad b 0)) : FSpec Try.prog 68 #[.pointer (some (ad b 0))] (cel b [.pointer q, v] 88) (fun _ : Unit => True) (fun _ => .tuple #[]) (fun _ => cel b [.pointer (some (ad b 0)), v] 88) := by
  rcases hq with rfl | rfl
  · exact cc_new b v
  · exact cc_old b v

theorem BLen (b : Nat) (q : Option Addr) (A : Option Addr) (n c : Nat) : FSpec Try.prog 45 #[.pointer (some (ad b 0))] (cel b [.pointer q, .slice A n c] 88) (fun _ : Unit => True) (fun _ => .int .i64 n) (fun _ => cel b [.pointer q, .slice A n c] 88) := by
  refine FSpec.enter' Try.func45 rfl Try.ntmps45 rfl fun σ F => ?_
  refine J_seq ?_
  refine J_region ?_
  refine L_v (opv_assign rfl) rfl ?_
  refine L_nil ?_
  refine K_then ?_
  refine J_seq ?_
  refine J_region ?_
  refine L_v (opv_move rfl) rfl ?_
  refine L_v (opv_nilCheck rfl) rfl ?_
  first
    | refine L_v (opv_fieldAddr0 rfl) rfl ?_
    | refine L_v (opv_fieldAddr rfl) rfl ?_
  refine L_v (opv_load rfl (Rd.look rfl)) rfl ?_
  first
    | refine L_v (opv_lenL rfl) rfl ?_
    | refine L_v (opv_lenS rfl) rfl ?_
  refine L_v (opv_assign rfl) rfl ?_
  refine L_nil ?_
  refine K_then ?_
  refine J_ret ?_
  exact K_ret1 rfl rfl () trivial (rfl) Ent.take

theorem BWrite (b : Nat) (q : Option Addr) (u : Option Addr × Nat) (s t : ByteArray) (hq : q = none ∨ q = some (ad b 0)) (h : s.size + t.size ≤ 1000000000) : FSpec Try.prog 46 #[.pointer (some (ad b 0)), .string t] ((sep (cel b [.pointer q, .slice u.1 (s).size u.2] 88) (OwnZ 5 u s))) (fun u' : Option Addr × Nat => True) (fun u' => .tuple #[.int .i64 t.size, .nilIface]) (fun u' => (sep (cel b [.pointer (some (ad b 0)), .slice u'.1 ((s ++ t)).size u'.2] 88) (OwnZ 5 u' (s ++ t)))) := by
  refine FSpec.enter' Try.func46 rfl Try.ntmps46 rfl fun σ F => ?_
  refine J_seq ?_
  refine J_region ?_
  refine L_v (opv_assign rfl) rfl ?_
  refine L_v (opv_assign rfl) rfl ?_
  refine L_nil ?_
  refine K_then ?_
  refine J_seq ?_
  refine J_region ?_
  refine L_v (opv_move rfl) rfl ?_
  refine L_x rfl (opx_call0 (cc_any b q (.slice u.1 (s).size u.2) hq) rfl rfl rfl) (fun _ _ => ?_)
  refine L_nil ?_
  refine K_then ?_
  refine J_seq ?_
  refine J_region ?_
  refine L_v (opv_move rfl) rfl ?_
  refine L_v (opv_move rfl) rfl ?_
  refine L_v (opv_nilCheck rfl) rfl ?_
  first
    | refine L_v (opv_fieldAddr0 rfl) rfl ?_
    | refine L_v (opv_fieldAddr rfl) rfl ?_
  refine L_v (opv_load rfl (Rd.look rfl)) rfl ?_
  refine L_v (opv_move rfl) rfl ?_
  refine L_x rfl (opx_appendZ rfl rfl rfl rfl (by unfold maxLen; omega) (by omega) rfl) (fun y14 _ => ?_)
  refine L_v (opv_nilCheck rfl) rfl ?_
  first
    | refine L_v (opv_fieldAddr0 rfl) rfl ?_
    | refine L_v (opv_fieldAddr rfl) rfl ?_
  refine L_x rfl (opx_store rfl rfl rfl (by simp [Value.oneCell'])) (fun _ _ => ?_)
  refine L_nil ?_
  refine K_then ?_
  refine J_seq ?_
  refine J_region ?_
  refine L_v (opv_move rfl) rfl ?_
  first
    | refine L_v (opv_lenL rfl) rfl ?_
    | refine L_v (opv_lenS rfl) rfl ?_
  refine L_v (opv_assign rfl) rfl ?_
  refine L_v (opv_assign rfl) rfl ?_
  refine L_nil ?_
  refine K_then ?_
  refine J_ret ?_
  exact K_ret2 rfl rfl rfl y14 trivial rfl (Ent.take (Q := (sep ((sep (cel b [.pointer (some (ad b 0)), .slice y14.1 ((s ++ t)).size y14.2] 88) (OwnZ 5 y14 (s ++ t)))) (F))))

theorem BString (b : Nat) (q : Option Addr) (u : Option Addr × Nat) (s : ByteArray) : FSpec Try.prog 47 #[.pointer (some (ad b 0))] ((sep (cel b [.pointer q, .slice u.1 (s).size u.2] 88) (OwnZ 5 u s))) (fun _ : Unit => True) (fun _ => .string s) (fun _ => cel b [.pointer q, .slice u.1 (s).size u.2] 88) := by
  refine FSpec.enter' Try.func47 rfl Try.ntmps47 rfl fun σ F => ?_
  refine J_eq _ (sep_assoc _ _ _) ?_
  refine J_seq ?_
  refine J_region ?_
  refine L_v (opv_assign rfl) rfl ?_
  refine L_nil ?_
  refine K_then ?_
  refine J_seq ?_
  refine J_steps (cel b [.pointer q, .slice u.1 (s).size u.2] 88) (cel b [.pointer q, .slice u.1 (s).size u.2] 88) [] Try.mixed ?_
  refine R_pure 0 rfl (by kernel_rfl) (by kernel_rfl) (by kernel_rfl) (by kernel_rfl) (.inr ⟨_, Take.eq (A := cel b [.pointer q, .slice u.1 (s).size u.2] 88)⟩) (opv_move rfl) rfl ?_
  refine R_pure 1 rfl (by kernel_rfl) (by kernel_rfl) (by kernel_rfl) (by kernel_rfl) (.inr ⟨_, Take.eq (A := cel b [.pointer q, .slice u.1 (s).size u.2] 88)⟩) (opv_nilCheck rfl) rfl ?_
  first
    | refine R_pure 2 rfl (by kernel_rfl) (by kernel_rfl) (by kernel_rfl) (by kernel_rfl) (.inr ⟨_, Take.eq (A := cel b [.pointer q, .slice u.1 (s).size u.2] 88)⟩) (opv_fieldAddr0 rfl) rfl ?_
    | refine R_pure 2 rfl (by kernel_rfl) (by kernel_rfl) (by kernel_rfl) (by kernel_rfl) (.inr ⟨_, Take.eq (A := cel b [.pointer q, .slice u.1 (s).size u.2] 88)⟩) (opv_fieldAddr rfl) rfl ?_
  refine R_take 3 rfl (by kernel_rfl) (by kernel_rfl) (by kernel_rfl) (by kernel_rfl) (by kernel_rfl) (opv_load rfl (Rd.look rfl)) rfl ?_
  refine R_pure 5 rfl (by kernel_rfl) (by kernel_rfl) (by kernel_rfl) (by kernel_rfl) (.inr ⟨_, Take.eq (A := cel b [.pointer q, .slice u.1 (s).size u.2] 88)⟩) (opv_move rfl) rfl ?_
  refine R_pure 6 rfl (by kernel_rfl) (by kernel_rfl) (by kernel_rfl) (by kernel_rfl) (.inr ⟨_, Take.eq (A := cel b [.pointer q, .slice u.1 (s).size u.2] 88)⟩) (opv_nilCheck rfl) rfl ?_
  first
    | refine R_pure 7 rfl (by kernel_rfl) (by kernel_rfl) (by kernel_rfl) (by kernel_rfl) (.inr ⟨_, Take.eq (A := cel b [.pointer q, .slice u.1 (s).size u.2] 88)⟩) (opv_fieldAddr0 rfl) rfl ?_
    | refine R_pure 7 rfl (by kernel_rfl) (by kernel_rfl) (by kernel_rfl) (by kernel_rfl) (.inr ⟨_, Take.eq (A := cel b [.pointer q, .slice u.1 (s).size u.2] 88)⟩) (opv_fieldAddr rfl) rfl ?_
  refine R_take 8 rfl (by kernel_rfl) (by kernel_rfl) (by kernel_rfl) (by kernel_rfl) (by kernel_rfl) (opv_load rfl (Rd.look rfl)) rfl ?_
  first
    | refine R_pure 9 rfl (by kernel_rfl) (by kernel_rfl) (by kernel_rfl) (by kernel_rfl) (.inr ⟨_, Take.eq (A := cel b [.pointer q, .slice u.1 (s).size u.2] 88)⟩) (opv_lenL rfl) rfl ?_
    | refine R_pure 9 rfl (by kernel_rfl) (by kernel_rfl) (by kernel_rfl) (by kernel_rfl) (.inr ⟨_, Take.eq (A := cel b [.pointer q, .slice u.1 (s).size u.2] 88)⟩) (opv_lenS rfl) rfl ?_
  refine R_only 4 rfl rfl (by kernel_rfl) (opx_sliceData (e := 5) (u := u) rfl rfl) (fun _ _ => ⟨_, Take.eq (A := cel b [.pointer q, .slice u.1 (s).size u.2] 88)⟩) (.inr fun _ _ => ⟨_, Take.eq (A := cel b [.pointer q, .slice u.1 (s).size u.2] 88)⟩) (fun q4 hq4 => ?_)
  refine R_only 10 rfl rfl (by kernel_rfl) (opx_unsafeString (e := 5) (u := u) rfl rfl rfl hq4 rfl) (fun _ _ => ⟨_, Take.eq (A := cel b [.pointer q, .slice u.1 (s).size u.2] 88)⟩) (.inr fun _ _ => ⟨_, Take.eq (A := cel b [.pointer q, .slice u.1 (s).size u.2] 88)⟩) (fun _ _ => ?_)
  refine R_pure 11 rfl (by kernel_rfl) (by kernel_rfl) (by kernel_rfl) (by kernel_rfl) (.inr ⟨_, Take.eq (A := cel b [.pointer q, .slice u.1 (s).size u.2] 88)⟩) (opv_assign rfl) rfl ?_
  refine R_done (by kernel_rfl) ?_
  refine K_then ?_
  refine J_ret ?_
  exact K_ret1 rfl rfl () trivial (rfl) Ent.take


def bareP (p : Pk) : Pk := { p with more := false, off := 0, data := ⟨#[]⟩ }
def bareEq (x y : Pk) : Prop := x.id = y.id ∧ x.ttl = y.ttl ∧ x.proto = y.proto ∧ (x.s0 = y.s0 ∧ x.s1 = y.s1 ∧ x.s2 = y.s2 ∧ x.s3 = y.s3) ∧ (x.d0 = y.d0 ∧ x.d1 = y.d1 ∧ x.d2 = y.d2 ∧ x.d3 = y.d3)
instance (x y : Pk) : Decidable (bareEq x y) := inferInstanceAs (Decidable (_ ∧ _))
theorem bare_list {x y : Pk} : ([.int .i64 x.id, .bool false, .int .i64 0, .int .i64 x.ttl, .int .i64 x.proto, .int .u8 x.s0, .int .u8 x.s1, .int .u8 x.s2, .int .u8 x.s3, .int .u8 x.d0, .int .u8 x.d1, .int .u8 x.d2, .int .u8 x.d3, .string ⟨#[]⟩] : List Value) ≠ [.int .i64 y.id, .bool false, .int .i64 0, .int .i64 y.ttl, .int .i64 y.proto, .int .u8 y.s0, .int .u8 y.s1, .int .u8 y.s2, .int .u8 y.s3, .int .u8 y.d0, .int .u8 y.d1, .int .u8 y.d2, .int .u8 y.d3, .string ⟨#[]⟩] ↔ ¬ bareEq x y := by
  refine not_congr ?_
  unfold bareEq
  simp only [List.cons.injEq, Value.int.injEq, true_and, and_true, and_assoc]

theorem bare_spec (x : Pk) : FSpec Try.prog 41 #[.agg [.int .i64 x.id, .bool x.more, .int .i64 x.off, .int .i64 x.ttl, .int .i64 x.proto, .int .u8 x.s0, .int .u8 x.s1, .int .u8 x.s2, .int .u8 x.s3, .int .u8 x.d0, .int .u8 x.d1, .int .u8 x.d2, .int .u8 x.d3, .string x.data].toArray] (emp) (fun _ : Unit => True) (fun _ => .agg [.int .i64 x.id, .bool false, .int .i64 0, .int .i64 x.ttl, .int .i64 x.proto, .int .u8 x.s0, .int .u8 x.s1, .int .u8 x.s2, .int .u8 x.s3, .int .u8 x.d0, .int .u8 x.d1, .int .u8 x.d2, .int .u8 x.d3, .string ⟨#[]⟩].toArray) (fun _ => emp) := by
  refine FSpec.enter' Try.func41 rfl Try.ntmps41 rfl fun σ F => ?_
  refine J_emp ?_
  refine J_seq ?_
  refine J_region ?_
  refine L_x rfl (opx_box (l := [.int .i64 x.id, .bool x.more, .int .i64 x.off, .int .i64 x.ttl, .int .i64 x.proto, .int .u8 x.s0, .int .u8 x.s1, .int .u8 x.s2, .int .u8 x.s3, .int .u8 x.d0, .int .u8 x.d1, .int .u8 x.d2, .int .u8 x.d3, .string x.data]) rfl rfl) (fun b1 _ => ?_)
  refine L_x rfl (opx_alloc rfl) (fun b2 _ => ?_)
  refine L_nil ?_
  refine K_then ?_
  refine J_seq ?_
  refine J_region ?_
  first
    | refine L_v (opv_fieldAddr0 rfl) rfl ?_
    | refine L_v (opv_fieldAddr rfl) rfl ?_
  refine L_x rfl (opx_store rfl rfl rfl (by simp [Value.oneCell'])) (fun _ _ => ?_)
  first
    | refine L_v (opv_fieldAddr0 rfl) rfl ?_
    | refine L_v (opv_fieldAddr rfl) rfl ?_
  refine L_x rfl (opx_store rfl rfl rfl (by simp [Value.oneCell'])) (fun _ _ => ?_)
  first
    | refine L_v (opv_fieldAddr0 rfl) rfl ?_
    | refine L_v (opv_fieldAddr rfl) rfl ?_
  refine L_x rfl (opx_store rfl rfl rfl (by simp [Value.oneCell'])) (fun _ _ => ?_)
  refine L_nil ?_
  refine K_then ?_
  refine J_seq ?_
  refine J_region ?_
  refine L_v (opv_loadS rfl) rfl ?_
  refine L_x rfl (opx_store rfl rfl rfl (by simp [Value.oneCell'])) (fun _ _ => ?_)
  refine L_nil ?_
  refine K_then ?_
  refine J_ret ?_
  exact K_ret1c (Q := fun _ _ _ => True) rfl rfl rfl () trivial rfl Ent.take

theorem other_spec (x p : Pk) (b3 : Nat) : FSpec Try.prog 43 #[.agg [.int .i64 x.id, .bool x.more, .int .i64 x.off, .int .i64 x.ttl, .int .i64 x.proto, .int .u8 x.s0, .int .u8 x.s1, .int .u8 x.s2, .int .u8 x.s3, .int .u8 x.d0, .int .u8 x.d1, .int .u8 x.d2, .int .u8 x.d3, .string x.data].toArray, .pointer (some (ad b3 0))] (cel b3 [.int .i64 p.id, .bool false, .int .i64 0, .int .i64 p.ttl, .int .i64 p.proto, .int .u8 p.s0, .int .u8 p.s1, .int .u8 p.s2, .int .u8 p.s3, .int .u8 p.d0, .int .u8 p.d1, .int .u8 p.d2, .int .u8 p.d3, .string ⟨#[]⟩] 32) (fun _ : Unit => True) (fun _ => .bool (decide (¬ bareEq x p))) (fun _ => cel b3 [.int .i64 p.id, .bool false, .int .i64 0, .int .i64 p.ttl, .int .i64 p.proto, .int .u8 p.s0, .int .u8 p.s1, .int .u8 p.s2, .int .u8 p.s3, .int .u8 p.d0, .int .u8 p.d1, .int .u8 p.d2, .int .u8 p.d3, .string ⟨#[]⟩] 32) := by
  refine FSpec.enter' Try.func43 rfl Try.ntmps43 rfl fun σ F => ?_
  refine J_seq ?_
  refine J_region ?_
  refine L_x rfl (opx_box (l := [.int .i64 x.id, .bool x.more, .int .i64 x.off, .int .i64 x.ttl, .int .i64 x.proto, .int .u8 x.s0, .int .u8 x.s1, .int .u8 x.s2, .int .u8 x.s3, .int .u8 x.d0, .int .u8 x.d1, .int .u8 x.d2, .int .u8 x.d3, .string x.data]) rfl rfl) (fun b2 _ => ?_)
  refine L_v (opv_assign rfl) rfl ?_
  refine L_nil ?_
  refine K_then ?_
  refine J_seq ?_
  refine J_steps ((sep (cel b2 [.int .i64 x.id, .bool x.more, .int .i64 x.off, .int .i64 x.ttl, .int .i64 x.proto, .int .u8 x.s0, .int .u8 x.s1, .int .u8 x.s2, .int .u8 x.s3, .int .u8 x.d0, .int .u8 x.d1, .int .u8 x.d2, .int .u8 x.d3, .string x.data] 32) (cel b3 [.int .i64 p.id, .bool false, .int .i64 0, .int .i64 p.ttl, .int .i64 p.proto, .int .u8 p.s0, .int .u8 p.s1, .int .u8 p.s2, .int .u8 p.s3, .int .u8 p.d0, .int .u8 p.d1, .int .u8 p.d2, .int .u8 p.d3, .string ⟨#[]⟩] 32))) ((sep (cel b2 [.int .i64 x.id, .bool x.more, .int .i64 x.off, .int .i64 x.ttl, .int .i64 x.proto, .int .u8 x.s0, .int .u8 x.s1, .int .u8 x.s2, .int .u8 x.s3, .int .u8 x.d0, .int .u8 x.d1, .int .u8 x.d2, .int .u8 x.d3, .string x.data] 32) (cel b3 [.int .i64 p.id, .bool false, .int .i64 0, .int .i64 p.ttl, .int .i64 p.proto, .int .u8 p.s0, .int .u8 p.s1, .int .u8 p.s2, .int .u8 p.s3, .int .u8 p.d0, .int .u8 p.d1, .int .u8 p.d2, .int .u8 p.d3, .string ⟨#[]⟩] 32))) [] Try.mixed ?_
  refine R_take 0 rfl (by kernel_rfl) (by kernel_rfl) (by kernel_rfl) (by kernel_rfl) (by kernel_rfl) (opv_loadS rfl) rfl ?_
  refine R_take 2 rfl (by kernel_rfl) (by kernel_rfl) (by kernel_rfl) (by kernel_rfl) (by kernel_rfl) (opv_loadS rfl) rfl ?_
  refine R_only 1 rfl rfl (by kernel_rfl) (opx_call0 (bare_spec x) rfl rfl rfl) (fun _ _ => ⟨_, Take.eq (A := (sep (cel b2 [.int .i64 x.id, .bool x.more, .int .i64 x.off, .int .i64 x.ttl, .int .i64 x.proto, .int .u8 x.s0, .int .u8 x.s1, .int .u8 x.s2, .int .u8 x.s3, .int .u8 x.d0, .int .u8 x.d1, .int .u8 x.d2, .int .u8 x.d3, .string x.data] 32) (cel b3 [.int .i64 p.id, .bool false, .int .i64 0, .int .i64 p.ttl, .int .i64 p.proto, .int .u8 p.s0, .int .u8 p.s1, .int .u8 p.s2, .int .u8 p.s3, .int .u8 p.d0, .int .u8 p.d1, .int .u8 p.d2, .int .u8 p.d3, .string ⟨#[]⟩] 32)))⟩) (.inr fun _ _ => ⟨_, Take.eq (A := (sep (cel b2 [.int .i64 x.id, .bool x.more, .int .i64 x.off, .int .i64 x.ttl, .int .i64 x.proto, .int .u8 x.s0, .int .u8 x.s1, .int .u8 x.s2, .int .u8 x.s3, .int .u8 x.d0, .int .u8 x.d1, .int .u8 x.d2, .int .u8 x.d3, .string x.data] 32) (cel b3 [.int .i64 p.id, .bool false, .int .i64 0, .int .i64 p.ttl, .int .i64 p.proto, .int .u8 p.s0, .int .u8 p.s1, .int .u8 p.s2, .int .u8 p.s3, .int .u8 p.d0, .int .u8 p.d1, .int .u8 p.d2, .int .u8 p.d3, .string ⟨#[]⟩] 32)))⟩) (fun _ _ => ?_)
  refine Rg_emp ?_
  refine R_pure 3 rfl (by kernel_rfl) (by kernel_rfl) (by kernel_rfl) (by kernel_rfl) (.inr ⟨_, Take.eq (A := (sep (cel b2 [.int .i64 x.id, .bool x.more, .int .i64 x.off, .int .i64 x.ttl, .int .i64 x.proto, .int .u8 x.s0, .int .u8 x.s1, .int .u8 x.s2, .int .u8 x.s3, .int .u8 x.d0, .int .u8 x.d1, .int .u8 x.d2, .int .u8 x.d3, .string x.data] 32) (cel b3 [.int .i64 p.id, .bool false, .int .i64 0, .int .i64 p.ttl, .int .i64 p.proto, .int .u8 p.s0, .int .u8 p.s1, .int .u8 p.s2, .int .u8 p.s3, .int .u8 p.d0, .int .u8 p.d1, .int .u8 p.d2, .int .u8 p.d3, .string ⟨#[]⟩] 32)))⟩) ((opv_neqF rfl rfl (by simp [Shape, CK.sh]) (by simp [Shape, CK.sh])).as (v' := .bool (decide (¬ bareEq x p))) (congrArg Value.bool (decide_eq_decide.2 bare_list))) rfl ?_
  refine R_pure 4 rfl (by kernel_rfl) (by kernel_rfl) (by kernel_rfl) (by kernel_rfl) (.inr ⟨_, Take.eq (A := (sep (cel b2 [.int .i64 x.id, .bool x.more, .int .i64 x.off, .int .i64 x.ttl, .int .i64 x.proto, .int .u8 x.s0, .int .u8 x.s1, .int .u8 x.s2, .int .u8 x.s3, .int .u8 x.d0, .int .u8 x.d1, .int .u8 x.d2, .int .u8 x.d3, .string x.data] 32) (cel b3 [.int .i64 p.id, .bool false, .int .i64 0, .int .i64 p.ttl, .int .i64 p.proto, .int .u8 p.s0, .int .u8 p.s1, .int .u8 p.s2, .int .u8 p.s3, .int .u8 p.d0, .int .u8 p.d1, .int .u8 p.d2, .int .u8 p.d3, .string ⟨#[]⟩] 32)))⟩) (opv_assign rfl) rfl ?_
  refine R_done (by kernel_rfl) ?_
  refine K_then ?_
  refine J_ret ?_
  exact K_ret1 rfl rfl () trivial (rfl) Ent.take


theorem glt {α : Type} {L : List α} {j : Nat} {x : α} (h : L[j]? = some x) : j < L.length := by
  rcases Nat.lt_or_ge j L.length with h' | h'
  · exact h'
  · rw [List.getElem?_eq_none h'] at h; cases h
/-- The first packet that is no part of a packet. -/
def odd (L : List Pk) (p : Pk) : Nat := L.findIdx fun x => decide (¬ bareEq x p)
theorem odd_le (L : List Pk) (p : Pk) : odd L p ≤ L.length := List.findIdx_le_length
theorem odd_here {L : List Pk} {p x : Pk} {j : Nat} (hj : j ≤ odd L p) (hx : L[j]? = some x) (h : ¬ bareEq x p) : odd L p = j := by
  have hl := glt hx
  rw [List.getElem?_eq_getElem hl] at hx
  simp only [Option.some.injEq] at hx
  rcases Nat.lt_or_ge j (odd L p) with h' | h'
  · have := List.not_of_lt_findIdx h'
    rw [hx] at this
    simp [h] at this
  · omega
theorem odd_next {L : List Pk} {p x : Pk} {j : Nat} (hj : j ≤ odd L p) (hx : L[j]? = some x) (h : bareEq x p) : j + 1 ≤ odd L p := by
  have hl := glt hx
  rw [List.getElem?_eq_getElem hl] at hx
  simp only [Option.some.injEq] at hx
  rcases Nat.lt_or_ge j (odd L p) with h' | h'
  · omega
  · have e : odd L p = j := by omega
    have hlt : L.findIdx (fun x => decide (¬ bareEq x p)) < L.length := by show odd L p < _; omega
    have := List.findIdx_getElem (w := hlt)
    have e2 : L[L.findIdx (fun x => decide (¬ bareEq x p))] = x := by rw [← hx]; congr 1
    rw [e2] at this
    simp only [decide_eq_true_eq] at this
    exact absurd h this

theorem IndexPk_spec (R0 : HProp) (A : Option Addr) (c b3 : Nat) (L : List Pk) (p : Pk) (hR : RdS R0 encPk 14 A L) (hn : L.length ≤ 1000000) : FSpec Try.prog 67 #[.slice A L.length c, .func (.func 43) #[] #[.pointer (some (ad b3 0))]] ((sep (cel b3 [.int .i64 p.id, .bool false, .int .i64 0, .int .i64 p.ttl, .int .i64 p.proto, .int .u8 p.s0, .int .u8 p.s1, .int .u8 p.s2, .int .u8 p.s3, .int .u8 p.d0, .int .u8 p.d1, .int .u8 p.d2, .int .u8 p.d3, .string ⟨#[]⟩] 32) (R0))) (fun _ : Unit => True) (fun _ => .int .i64 (if odd L p < L.length then ((odd L p : Nat) : Int) else -1)) (fun _ => (sep (cel b3 [.int .i64 p.id, .bool false, .int .i64 0, .int .i64 p.ttl, .int .i64 p.proto, .int .u8 p.s0, .int .u8 p.s1, .int .u8 p.s2, .int .u8 p.s3, .int .u8 p.d0, .int .u8 p.d1, .int .u8 p.d2, .int .u8 p.d3, .string ⟨#[]⟩] 32) (R0))) := by
  refine FSpec.enter' Try.func67 rfl Try.ntmps67 rfl fun σ F => ?_
  refine J_eq _ (sep_assoc _ _ _) ?_
  refine J_seq ?_
  refine J_region ?_
  refine L_v (opv_assign rfl) rfl ?_
  refine L_nil ?_
  refine K_then ?_
  refine J_seq ?_
  refine J_seq ?_
  refine J_region ?_
  refine L_v (opv_move rfl) rfl ?_
  first
    | refine L_v (opv_lenL rfl) rfl ?_
    | refine L_v (opv_lenS rfl) rfl ?_
  refine L_v (opv_move rfl) rfl ?_
  refine L_nil ?_
  refine K_then ?_
  refine J_block ?_
  refine J_loop (X := Nat) (fun i => [(0, .slice A L.length c), (1, .func (.func 43) #[] #[.pointer (some (ad b3 0))]), (7, .int .i64 L.length), (8, .int .i64 i)]) (fun i => (sep (cel b3 [.int .i64 p.id, .bool false, .int .i64 0, .int .i64 p.ttl, .int .i64 p.proto, .int .u8 p.s0, .int .u8 p.s1, .int .u8 p.s2, .int .u8 p.s3, .int .u8 p.d0, .int .u8 p.d1, .int .u8 p.d2, .int .u8 p.d3, .string ⟨#[]⟩] 32) (sep (R0) (F)))) (fun i => i ≤ odd L p) (fun i => L.length - i) (0) (Nat.zero_le _) ⟨rfl, rfl, rfl, rfl, trivial⟩ (Ent.refl _) (fun i hi => ?_)
  refine J_seq ?_
  refine J_region ?_
  refine L_v (opv_lss rfl rfl) rfl ?_
  refine L_nil ?_
  refine K_then ?_
  refine J_seq ?_
  refine J_cond rfl (fun h1 => ?_) (fun h1 => ?_)
  · have hil : i < L.length := by omega
    obtain ⟨x, hx⟩ : ∃ x, L[i]? = some x := ⟨_, List.getElem?_eq_getElem hil⟩
    obtain ⟨b, o, rfl⟩ := hR.nonnil i hil
    refine J_skip ?_
    refine K_then ?_
    refine J_seq ?_
    refine J_block ?_
    refine J_seq ?_
    refine J_region ?_
    refine L_v (opv_move rfl) rfl ?_
    refine L_v (opv_assign rfl) rfl ?_
    refine L_nil ?_
    refine K_then ?_
    refine J_seq ?_
    refine J_region ?_
    refine L_v (opv_move rfl) rfl ?_
    refine L_v (opv_move rfl) rfl ?_
    refine L_v (opv_move rfl) rfl ?_
    first
      | refine L_v (opv_indexAddr rfl rfl (by omega)) rfl ?_
      | refine L_v (opv_indexAddrA rfl rfl (by omega)) rfl ?_
    refine L_v (opv_loadN (vs := [.int .i64 x.id, .bool x.more, .int .i64 x.off, .int .i64 x.ttl, .int .i64 x.proto, .int .u8 x.s0, .int .u8 x.s1, .int .u8 x.s2, .int .u8 x.s3, .int .u8 x.d0, .int .u8 x.d1, .int .u8 x.d2, .int .u8 x.d3, .string x.data]) rfl rfl (fun j u hj => Rd.of_take (S := R0) (hR.rd b o rfl i x j u hx hj))) rfl ?_
    refine L_x rfl (opx_call (first := []) (captured := [.pointer (some (ad b3 0))]) (other_spec x p b3) rfl rfl rfl rfl) (fun _ _ => ?_)
    refine L_nil ?_
    refine K_then ?_
    refine J_cond_bool rfl (fun h2 => ?_) (fun h2 => ?_)
    · refine J_seq ?_
      refine J_region ?_
      refine L_v (opv_move rfl) rfl ?_
      refine L_v (opv_assign rfl) rfl ?_
      refine L_nil ?_
      refine K_then ?_
      refine J_ret ?_
      refine K_block_ret ?_
      refine K_then_ret ?_
      refine K_then_ret ?_
      refine K_block_ret ?_
      refine K_then_ret ?_
      have e := odd_here hi hx (of_decide_eq_true h2)
      exact K_ret1 rfl rfl () trivial (congrArg (Value.int .i64) (by rw [if_pos (by omega), e])) Ent.take
    · refine J_skip ?_
      refine K_block ?_
      refine K_then ?_
      refine J_region ?_
      first
        | refine L_v (opv_add64 rfl rfl (by omega)) rfl ?_
        | refine L_v (opv_addS rfl rfl (by omega)) rfl ?_
        | refine L_v (opv_add rfl rfl) rfl ?_
      refine L_v (opv_move rfl) rfl ?_
      refine L_nil ?_
      exact K_loop (i + 1) (odd_next hi hx (Classical.not_not.1 (of_decide_eq_false h2))) (by omega) ⟨rfl, rfl, rfl, rfl, trivial⟩ Ent.takes
  · refine J_exit ?_
    refine K_then_exit ?_
    refine K_then_exit ?_
    refine K_block_here ?_
    refine K_then ?_
    refine J_seq ?_
    refine J_region ?_
    refine L_v (opv_assign rfl) rfl ?_
    refine L_nil ?_
    refine K_then ?_
    refine J_ret ?_
    have hle := odd_le L p
    exact K_ret1 rfl rfl () trivial (congrArg (Value.int .i64) (by rw [if_neg (by omega)])) Ent.take

theorem ContainsPk_spec (R0 : HProp) (A : Option Addr) (c b3 : Nat) (L : List Pk) (p : Pk) (hR : RdS R0 encPk 14 A L) (hn : L.length ≤ 1000000) : FSpec Try.prog 42 #[.slice A L.length c, .func (.func 43) #[] #[.pointer (some (ad b3 0))]] ((sep (cel b3 [.int .i64 p.id, .bool false, .int .i64 0, .int .i64 p.ttl, .int .i64 p.proto, .int .u8 p.s0, .int .u8 p.s1, .int .u8 p.s2, .int .u8 p.s3, .int .u8 p.d0, .int .u8 p.d1, .int .u8 p.d2, .int .u8 p.d3, .string ⟨#[]⟩] 32) (R0))) (fun _ : Unit => True) (fun _ => .bool (decide (odd L p < L.length))) (fun _ => (sep (cel b3 [.int .i64 p.id, .bool false, .int .i64 0, .int .i64 p.ttl, .int .i64 p.proto, .int .u8 p.s0, .int .u8 p.s1, .int .u8 p.s2, .int .u8 p.s3, .int .u8 p.d0, .int .u8 p.d1, .int .u8 p.d2, .int .u8 p.d3, .string ⟨#[]⟩] 32) (R0))) := by
  refine FSpec.enter' Try.func42 rfl Try.ntmps42 rfl fun σ F => ?_
  refine J_seq ?_
  refine J_region ?_
  refine L_v (opv_assign rfl) rfl ?_
  refine L_nil ?_
  refine K_then ?_
  refine J_seq ?_
  refine J_region ?_
  refine L_v (opv_move rfl) rfl ?_
  refine L_v (opv_move rfl) rfl ?_
  refine L_x rfl (opx_call0 (IndexPk_spec R0 A c b3 L p hR hn) rfl rfl rfl) (fun _ _ => ?_)
  refine L_v ((opv_geq rfl rfl).as (v' := .bool (decide (odd L p < L.length))) (congrArg Value.bool (decide_eq_decide.2 (by split <;> omega)))) rfl ?_
  refine L_v (opv_assign rfl) rfl ?_
  refine L_nil ?_
  refine K_then ?_
  refine J_ret ?_
  exact K_ret1 rfl rfl () trivial (rfl) Ent.take

/-- What is wrong with a part behind so many bytes. -/
def fitC (p : Pk) (a : Nat) (last : Bool) : Int := if a % 8 ≠ 0 ∨ p.off ≠ ((a / 8 : Nat) : Int) then 25 else if p.more = true ∧ (p.data.size = 0 ∨ p.data.size % 8 ≠ 0) then 15 else if p.more = false ∧ last = false then 25 else 0
theorem noby {s : ByteArray} : s = ⟨#[]⟩ ↔ s.size = 0 := ⟨fun h => by rw [h]; rfl, fun h => size_zero h⟩


section
variable {p : Pk} {a : Nat} {last : Bool}
theorem fit_a (h : a % 8 ≠ 0 ∨ p.off ≠ ((a / 8 : Nat) : Int)) : fitC p a last = 25 := if_pos h
theorem fit_b (h : ¬ (a % 8 ≠ 0 ∨ p.off ≠ ((a / 8 : Nat) : Int))) (h2 : p.more = true ∧ (p.data.size = 0 ∨ p.data.size % 8 ≠ 0)) : fitC p a last = 15 := by unfold fitC; rw [if_neg h, if_pos h2]
theorem fit_c (h : ¬ (a % 8 ≠ 0 ∨ p.off ≠ ((a / 8 : Nat) : Int))) (h2 : ¬ (p.more = true ∧ (p.data.size = 0 ∨ p.data.size % 8 ≠ 0))) (h3 : p.more = false ∧ last = false) : fitC p a last = 25 := by unfold fitC; rw [if_neg h, if_neg h2, if_pos h3]
theorem fit_d (h : ¬ (a % 8 ≠ 0 ∨ p.off ≠ ((a / 8 : Nat) : Int))) (h2 : ¬ (p.more = true ∧ (p.data.size = 0 ∨ p.data.size % 8 ≠ 0))) (h3 : ¬ (p.more = false ∧ last = false)) : fitC p a last = 0 := by unfold fitC; rw [if_neg h, if_neg h2, if_neg h3]
end

theorem fits_spec (p : Pk) (a : Nat) (last : Bool) (ha : a ≤ 100000000) : FSpec Try.prog 44 #[.agg [.int .i64 p.id, .bool p.more, .int .i64 p.off, .int .i64 p.ttl, .int .i64 p.proto, .int .u8 p.s0, .int .u8 p.s1, .int .u8 p.s2, .int .u8 p.s3, .int .u8 p.d0, .int .u8 p.d1, .int .u8 p.d2, .int .u8 p.d3, .string p.data].toArray, .int .i64 a, .bool last] (emp) (fun _ : Unit => True) (fun _ => .int .i64 (fitC p a last)) (fun _ => emp) := by
  refine FSpec.enter' Try.func44 rfl Try.ntmps44 rfl fun σ F => ?_
  refine J_emp ?_
  refine J_seq ?_
  refine J_region ?_
  refine L_x rfl (opx_box (l := [.int .i64 p.id, .bool p.more, .int .i64 p.off, .int .i64 p.ttl, .int .i64 p.proto, .int .u8 p.s0, .int .u8 p.s1, .int .u8 p.s2, .int .u8 p.s3, .int .u8 p.d0, .int .u8 p.d1, .int .u8 p.d2, .int .u8 p.d3, .string p.data]) rfl rfl) (fun b3 _ => ?_)
  refine L_v (opv_assign rfl) rfl ?_
  refine L_nil ?_
  refine K_then ?_
  refine J_seq ?_
  refine J_block ?_
  refine J_seq ?_
  refine J_region ?_
  refine L_v (opv_move rfl) rfl ?_
  refine L_v ((opv_remP rfl rfl (by omega)).as (v' := .int .i64 ((a % 8 : Nat) : Int)) rfl) rfl ?_
  first
    | refine L_v (opv_neq rfl rfl) rfl ?_
    | refine L_v (opv_neqS rfl rfl) rfl ?_
    | refine L_v (opv_neqNil rfl rfl) rfl ?_
    | refine L_v (opv_neqB rfl rfl) rfl ?_
  refine L_v (opv_move rfl) rfl ?_
  refine L_gf rfl rfl (fun h1 => ?_) (fun h1 => ?_) (fun _ h => by cases h; rfl)
  · first
      | refine L_v (opv_fieldAddr0 rfl) rfl ?_
      | refine L_v (opv_fieldAddr rfl) rfl ?_
    refine L_gf_on h1 rfl rfl ?_
    refine L_v (opv_load rfl (Rd.look rfl)) rfl ?_
    refine L_gf_on h1 rfl rfl ?_
    refine L_v (opv_move rfl) rfl ?_
    refine L_gf_on h1 rfl rfl ?_
    refine L_v ((opv_quoP rfl rfl (by omega)).as (v' := .int .i64 ((a / 8 : Nat) : Int)) rfl) rfl ?_
    refine L_gf_on h1 rfl rfl ?_
    first
      | refine L_v (opv_neq rfl rfl) rfl ?_
      | refine L_v (opv_neqS rfl rfl) rfl ?_
      | refine L_v (opv_neqNil rfl rfl) rfl ?_
      | refine L_v (opv_neqB rfl rfl) rfl ?_
    refine L_v (opv_pick_f rfl h1 rfl) rfl ?_
    refine L_v (opv_assign rfl) rfl ?_
    refine L_nil ?_
    refine K_then ?_
    refine J_cond rfl (fun h2 => ?_) (fun h2 => ?_)
    · refine J_seq ?_
      refine J_region ?_
      refine L_v (opv_assign rfl) rfl ?_
      refine L_nil ?_
      refine K_then ?_
      refine J_ret ?_
      refine K_block_ret ?_
      refine K_then_ret ?_
      exact K_ret1 rfl rfl () trivial (congrArg (Value.int .i64) (fit_a (by omega)).symm) Ent.take
    · refine J_seq ?_
      refine J_region ?_
      first
        | refine L_v (opv_fieldAddr0 rfl) rfl ?_
        | refine L_v (opv_fieldAddr rfl) rfl ?_
      refine L_v ((opv_load rfl (Rd.look rfl)).as (v' := .bool (decide (p.more = true))) (by simp)) rfl ?_
      refine L_v (opv_move rfl) rfl ?_
      refine L_gt rfl rfl (fun h3 => ?_) (fun h3 => ?_) (fun _ h => by cases h; rfl)
      · first
          | refine L_v (opv_fieldAddr0 rfl) rfl ?_
          | refine L_v (opv_fieldAddr rfl) rfl ?_
        refine L_gt_on h3 rfl rfl ?_
        refine L_v (opv_load rfl (Rd.look rfl)) rfl ?_
        refine L_gt_on h3 rfl rfl ?_
        refine L_v ((opv_eqlS rfl rfl).as (v' := .bool (decide (p.data.size = 0))) (congrArg Value.bool (decide_eq_decide.2 noby))) rfl ?_
        refine L_gt_on h3 rfl rfl ?_
        refine L_v (opv_move rfl) rfl ?_
        refine L_gf rfl rfl (fun h4 => ?_) (fun h4 => ?_) (fun _ h => by cases h; rfl)
        · first
            | refine L_v (opv_fieldAddr0 rfl) rfl ?_
            | refine L_v (opv_fieldAddr rfl) rfl ?_
          refine L_gf_on h4 rfl rfl ?_
          refine L_v (opv_load rfl (Rd.look rfl)) rfl ?_
          refine L_gf_on h4 rfl rfl ?_
          first
            | refine L_v (opv_lenL rfl) rfl ?_
            | refine L_v (opv_lenS rfl) rfl ?_
          refine L_gf_on h4 rfl rfl ?_
          refine L_v ((opv_remP rfl rfl (by omega)).as (v' := .int .i64 ((p.data.size % 8 : Nat) : Int)) rfl) rfl ?_
          refine L_gf_on h4 rfl rfl ?_
          first
            | refine L_v (opv_neq rfl rfl) rfl ?_
            | refine L_v (opv_neqS rfl rfl) rfl ?_
            | refine L_v (opv_neqNil rfl rfl) rfl ?_
            | refine L_v (opv_neqB rfl rfl) rfl ?_
          refine L_gt_on h3 rfl rfl ?_
          refine L_v (opv_pick_f rfl h4 rfl) rfl ?_
          refine L_v (opv_pick_t rfl h3 rfl) rfl ?_
          refine L_v (opv_assign rfl) rfl ?_
          refine L_nil ?_
          refine K_then ?_
          refine J_cond rfl (fun h5 => ?_) (fun h5 => ?_)
          · refine J_seq ?_
            refine J_region ?_
            refine L_v (opv_assign rfl) rfl ?_
            refine L_nil ?_
            refine K_then ?_
            refine J_ret ?_
            refine K_block_ret ?_
            refine K_then_ret ?_
            exact K_ret1 rfl rfl () trivial (congrArg (Value.int .i64) (fit_b (by omega) ⟨by assumption, by omega⟩).symm) Ent.take
          · refine J_seq ?_
            refine J_region ?_
            first
              | refine L_v (opv_fieldAddr0 rfl) rfl ?_
              | refine L_v (opv_fieldAddr rfl) rfl ?_
            refine L_v ((opv_load rfl (Rd.look rfl)).as (v' := .bool (decide (p.more = true))) (by simp)) rfl ?_
            refine L_v ((opv_notD rfl).as (v' := .bool (decide (p.more = false))) (by simp)) rfl ?_
            refine L_v (opv_move rfl) rfl ?_
            refine L_gt rfl rfl (fun h6 => ?_) (fun h6 => ?_) (fun _ h => by cases h; rfl)
            · refine L_v (opv_move rfl) rfl ?_
              refine L_gt_on h6 rfl rfl ?_
              refine L_v ((opv_not rfl).as (v' := .bool (decide (last = false))) (by simp)) rfl ?_
              refine L_v (opv_pick_t rfl h6 rfl) rfl ?_
              refine L_v (opv_assign rfl) rfl ?_
              refine L_nil ?_
              refine K_then ?_
              refine J_cond rfl (fun h7 => ?_) (fun h7 => ?_)
              · refine J_seq ?_
                refine J_region ?_
                refine L_v (opv_assign rfl) rfl ?_
                refine L_nil ?_
                refine K_then ?_
                refine J_ret ?_
                refine K_block_ret ?_
                refine K_then_ret ?_
                exact K_ret1 rfl rfl () trivial (congrArg (Value.int .i64) (fit_c (by omega) (by rintro ⟨g1, g2⟩; first | contradiction | omega | (simp_all; done)) ⟨by assumption, by assumption⟩).symm) Ent.take
              · refine J_skip ?_
                refine K_block ?_
                refine K_then ?_
                refine J_seq ?_
                refine J_region ?_
                refine L_v (opv_assign rfl) rfl ?_
                refine L_nil ?_
                refine K_then ?_
                refine J_ret ?_
                exact K_ret1 rfl rfl () trivial (congrArg (Value.int .i64) (fit_d (by omega) (by rintro ⟨g1, g2⟩; first | contradiction | omega | (simp_all; done)) (by rintro ⟨g1, g2⟩; first | contradiction | omega | (simp_all; done))).symm) Ent.take
            · refine L_gt_off h6 rfl rfl ?_ (fun _ h => by cases h; rfl)
              refine L_v (opv_pick_f rfl h6 rfl) rfl ?_
              refine L_v (opv_assign rfl) rfl ?_
              refine L_nil ?_
              refine K_then ?_
              refine J_cond_false rfl ?_
              refine J_skip ?_
              refine K_block ?_
              refine K_then ?_
              refine J_seq ?_
              refine J_region ?_
              refine L_v (opv_assign rfl) rfl ?_
              refine L_nil ?_
              refine K_then ?_
              refine J_ret ?_
              exact K_ret1 rfl rfl () trivial (congrArg (Value.int .i64) (fit_d (by omega) (by rintro ⟨g1, g2⟩; first | contradiction | omega | (simp_all; done)) (by rintro ⟨g1, g2⟩; first | contradiction | omega | (simp_all; done))).symm) Ent.take
        · refine L_gf_off h4 rfl rfl ?_ (fun _ h => by cases h; rfl)
          refine L_gf_off h4 rfl rfl ?_ (fun _ h => by cases h; rfl)
          refine L_gf_off h4 rfl rfl ?_ (fun _ h => by cases h; rfl)
          refine L_gf_off h4 rfl rfl ?_ (fun _ h => by cases h; rfl)
          refine L_gt_on h3 rfl rfl ?_
          refine L_v (opv_pick_t rfl h4 rfl) rfl ?_
          refine L_v (opv_pick_t rfl h3 rfl) rfl ?_
          refine L_v (opv_assign rfl) rfl ?_
          refine L_nil ?_
          refine K_then ?_
          refine J_cond_true rfl ?_
          refine J_seq ?_
          refine J_region ?_
          refine L_v (opv_assign rfl) rfl ?_
          refine L_nil ?_
          refine K_then ?_
          refine J_ret ?_
          refine K_block_ret ?_
          refine K_then_ret ?_
          exact K_ret1 rfl rfl () trivial (congrArg (Value.int .i64) (fit_b (by omega) ⟨by assumption, by omega⟩).symm) Ent.take
      · refine L_gt_off h3 rfl rfl ?_ (fun _ h => by cases h; rfl)
        refine L_gt_off h3 rfl rfl ?_ (fun _ h => by cases h; rfl)
        refine L_gskipU rfl rfl (by simp [h3]) rfl ?_
        refine L_gU rfl rfl rfl ?_
        refine L_gU rfl rfl rfl ?_
        refine L_gU rfl rfl rfl ?_
        refine L_gU rfl rfl rfl ?_
        refine L_gU rfl rfl rfl ?_
        refine L_gt_off h3 rfl rfl ?_ (fun _ h => by cases h; rfl)
        refine L_v (opv_pick_f rfl h3 rfl) rfl ?_
        refine L_v (opv_assign rfl) rfl ?_
        refine L_nil ?_
        refine K_then ?_
        refine J_cond_false rfl ?_
        refine J_seq ?_
        refine J_region ?_
        first
          | refine L_v (opv_fieldAddr0 rfl) rfl ?_
          | refine L_v (opv_fieldAddr rfl) rfl ?_
        refine L_v ((opv_load rfl (Rd.look rfl)).as (v' := .bool (decide (p.more = true))) (by simp)) rfl ?_
        refine L_v ((opv_notD rfl).as (v' := .bool (decide (p.more = false))) (by simp)) rfl ?_
        refine L_v (opv_move rfl) rfl ?_
        refine L_gt rfl rfl (fun h8 => ?_) (fun h8 => ?_) (fun _ h => by cases h; rfl)
        · refine L_v (opv_move rfl) rfl ?_
          refine L_gt_on h8 rfl rfl ?_
          refine L_v ((opv_not rfl).as (v' := .bool (decide (last = false))) (by simp)) rfl ?_
          refine L_v (opv_pick_t rfl h8 rfl) rfl ?_
          refine L_v (opv_assign rfl) rfl ?_
          refine L_nil ?_
          refine K_then ?_
          refine J_cond rfl (fun h9 => ?_) (fun h9 => ?_)
          · refine J_seq ?_
            refine J_region ?_
            refine L_v (opv_assign rfl) rfl ?_
            refine L_nil ?_
            refine K_then ?_
            refine J_ret ?_
            refine K_block_ret ?_
            refine K_then_ret ?_
            exact K_ret1 rfl rfl () trivial (congrArg (Value.int .i64) (fit_c (by omega) (by rintro ⟨g1, g2⟩; first | contradiction | omega | (simp_all; done)) ⟨by assumption, by assumption⟩).symm) Ent.take
          · refine J_skip ?_
            refine K_block ?_
            refine K_then ?_
            refine J_seq ?_
            refine J_region ?_
            refine L_v (opv_assign rfl) rfl ?_
            refine L_nil ?_
            refine K_then ?_
            refine J_ret ?_
            exact K_ret1 rfl rfl () trivial (congrArg (Value.int .i64) (fit_d (by omega) (by rintro ⟨g1, g2⟩; first | contradiction | omega | (simp_all; done)) (by rintro ⟨g1, g2⟩; first | contradiction | omega | (simp_all; done))).symm) Ent.take
        · refine L_gt_off h8 rfl rfl ?_ (fun _ h => by cases h; rfl)
          refine L_v (opv_pick_f rfl h8 rfl) rfl ?_
          refine L_v (opv_assign rfl) rfl ?_
          refine L_nil ?_
          refine K_then ?_
          refine J_cond_false rfl ?_
          refine J_skip ?_
          refine K_block ?_
          refine K_then ?_
          refine J_seq ?_
          refine J_region ?_
          refine L_v (opv_assign rfl) rfl ?_
          refine L_nil ?_
          refine K_then ?_
          refine J_ret ?_
          exact K_ret1 rfl rfl () trivial (congrArg (Value.int .i64) (fit_d (by omega) (by rintro ⟨g1, g2⟩; first | contradiction | omega | (simp_all; done)) (by rintro ⟨g1, g2⟩; first | contradiction | omega | (simp_all; done))).symm) Ent.take
  · refine L_gf_off h1 rfl rfl ?_ (fun _ h => by cases h; rfl)
    refine L_gf_off h1 rfl rfl ?_ (fun _ h => by cases h; rfl)
    refine L_gf_off h1 rfl rfl ?_ (fun _ h => by cases h; rfl)
    refine L_gf_off h1 rfl rfl ?_ (fun _ h => by cases h; rfl)
    refine L_v (opv_pick_t rfl h1 rfl) rfl ?_
    refine L_v (opv_assign rfl) rfl ?_
    refine L_nil ?_
    refine K_then ?_
    refine J_cond_true rfl ?_
    refine J_seq ?_
    refine J_region ?_
    refine L_v (opv_assign rfl) rfl ?_
    refine L_nil ?_
    refine K_then ?_
    refine J_ret ?_
    refine K_block_ret ?_
    refine K_then_ret ?_
    exact K_ret1 rfl rfl () trivial (congrArg (Value.int .i64) (fit_a (by omega)).symm) Ent.take

end Go.Proofs.Ytjpbpfihacfndaa
