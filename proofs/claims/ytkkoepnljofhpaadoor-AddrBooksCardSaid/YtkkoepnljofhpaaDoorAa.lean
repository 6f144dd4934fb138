/- Contracts of the functions of the package addr that lay addresses, and of the document's, each proved by a walk over its code; they are used by the texts that import this one. -/
import Derived.Test.YtkkoepnljofhpaaDoorT
import Derived.Test.YtkkoepnljofhpaaDoorO
import Derived.Test.YtkkoepnljofhpaaDoorY
import Derived.Test.YtkkoepnljofhpaaDoorZ
import Derived.Test.YtkkoepnljofhpaaDoorH
namespace Go.Proofs.YtkkoepnljofhpaaDoor
open Go.SLA
set_option maxRecDepth 100000
set_option linter.unusedVariables false
set_option linter.unusedSimpArgs false
attribute [local irreducible] J L K QL Rg FSpec OpV OpX Rd Back

/-- Numbers as bytes, the highest ones first. -/
def be (m : Nat) : Nat → ByteArray
  | 0 => bytesL []
  | c + 1 => bytesL [((m / 256 ^ c % 256 : Nat) : Int)] ++ be m c
theorem be_size (m : Nat) : ∀ c, (be m c).size = c
  | 0 => rfl
  | c + 1 => by rw [be, ByteArray.size_append, bytesL_size, be_size m c]; simp; omega
theorem wr8 (n : Nat) : IntKind.u8.wrap (n : Int) = ((n % 256 : Nat) : Int) := by rw [IntKind.wrap_u8]; omega
theorem sh8 {n : Nat} : IntKind.u8.wrap ((n : Int) / 2 ^ (min (Int.toNat 8) IntKind.i64.bits)) = ((n / 256 % 256 : Nat) : Int) := by
  show IntKind.u8.wrap ((n : Int) / 256) = _
  rw [IntKind.wrap_u8]; omega

theorem two_spec (n : Nat) (hn : n ≤ 65535) : FSpec Tryd.prog 39 #[.int .i64 (n : Nat)] (emp) (fun _ : Unit => True) (fun _ => .tuple #[.int .u8 ((n / 256 % 256 : Nat) : Int), .int .u8 ((n % 256 : Nat) : Int)]) (fun _ => emp) := by
  refine FSpec.enter' Tryd.func39 rfl Tryd.ntmps39 rfl fun σ F => ?_
  refine J_seq ?_
  refine J_region ?_
  refine L_v (opv_assign rfl) rfl ?_
  refine L_v (opv_assign rfl) rfl ?_
  refine L_nil ?_
  refine K_then ?_
  refine J_seq ?_
  refine J_region ?_
  refine L_v (opv_move rfl) rfl ?_
  refine L_v ((opv_shrP rfl rfl (by omega))) rfl ?_
  refine L_v ((opv_convert rfl).as (congrArg (Value.int .u8) sh8)) rfl ?_
  refine L_v (opv_move rfl) rfl ?_
  refine L_v ((opv_convert rfl).as (congrArg (Value.int .u8) (wr8 n))) rfl ?_
  refine L_v (opv_assign rfl) rfl ?_
  refine L_v (opv_assign rfl) rfl ?_
  refine L_nil ?_
  refine K_then ?_
  refine J_ret ?_
  exact K_ret2 rfl rfl rfl () trivial rfl (Ent.refl _)

theorem RNum_spec (m c : Nat) (hm : m ≤ 9223372036854775807) (hc : c ≤ 1000000) : FSpec Tryd.prog 40 #[.int .i64 m, .int .i64 c] (emp) (fun _ : Unit => True) (fun _ => .string (be m c)) (fun _ => emp) := by
  refine FSpec.enter' Tryd.func40 rfl Tryd.ntmps40 rfl fun σ F => ?_
  refine J_seq ?_
  refine J_region ?_
  refine L_v (opv_assign rfl) rfl ?_
  refine L_nil ?_
  refine K_then ?_
  refine J_seq ?_
  refine J_region ?_
  refine L_v (opv_assign rfl) rfl ?_
  refine L_nil ?_
  refine K_then ?_
  refine J_seq ?_
  refine J_seq ?_
  refine J_region ?_
  refine L_v (opv_assign rfl) rfl ?_
  refine L_nil ?_
  refine K_then ?_
  refine J_block ?_
  refine J_loop (X := Nat × Nat) (fun y => [(0, .int .i64 y.2), (1, .int .i64 c), (5, .string (be m y.1)), (6, .int .i64 y.1)]) (fun y => (sep (emp) (F))) (fun y => y.1 ≤ c ∧ y.2 = m / 256 ^ y.1 ∧ y.2 ≤ m) (fun y => c - y.1) ((0, m)) ⟨Nat.zero_le _, by show m = m / 1; omega, Nat.le_refl _⟩ ⟨rfl, rfl, rfl, rfl, trivial⟩ (Ent.refl _) (fun y hy => ?_)
  obtain ⟨hk, hq, hmk⟩ := hy
  have hbs := be_size m y.1
  refine J_seq ?_
  refine J_seq ?_
  refine J_region ?_
  refine L_v (opv_move rfl) rfl ?_
  refine L_v (opv_move rfl) rfl ?_
  refine L_v (opv_lss rfl rfl) rfl ?_
  refine L_nil ?_
  refine K_then ?_
  refine J_cond rfl (fun h1 => ?_) (fun h1 => ?_)
  · refine J_skip ?_
    refine K_then ?_
    refine J_seq ?_
    refine J_block ?_
    refine J_seq ?_
    refine J_region ?_
    refine L_v (opv_move rfl) rfl ?_
    refine L_v ((opv_remP rfl rfl (by omega)).as (v' := .int .i64 ((y.2 % 256 : Nat) : Int)) rfl) rfl ?_
    first
      | refine L_v (opv_convW rfl (Go.IntWalk.u8_in _ (by omega))) rfl ?_
      | refine L_v (opv_convert rfl) rfl ?_
    refine L_x rfl (opx_buildSlice1 (m := 1) rfl rfl (by omega) (by omega) rfl) (fun b15 _ => ?_)
    refine L_v (opv_b2sL ([((y.2 % 256 : Nat) : Int)]) rfl rfl rfl (by simp; try omega)) rfl ?_
    refine L_v (opv_move rfl) rfl ?_
    refine L_v ((opv_addS rfl rfl (by rw [bytesL_size]; show 1 + (be m y.1).size ≤ _; omega)).as (v' := .string (be m (y.1 + 1))) (by rw [hq]; rfl)) rfl ?_
    refine L_v (opv_assign rfl) rfl ?_
    refine L_nil ?_
    refine K_then ?_
    refine J_region ?_
    refine L_v (opv_move rfl) rfl ?_
    refine L_v ((opv_quoP rfl rfl (by omega)).as (v' := .int .i64 ((y.2 / 256 : Nat) : Int)) rfl) rfl ?_
    refine L_v (opv_assign rfl) rfl ?_
    refine L_nil ?_
    refine K_block ?_
    refine K_then ?_
    refine J_region ?_
    refine L_v (opv_move rfl) rfl ?_
    first
      | refine L_v (opv_add64 rfl rfl (by omega)) rfl ?_
      | refine L_v (opv_addS rfl rfl (by omega)) rfl ?_
      | refine L_v (opv_add rfl rfl) rfl ?_
    refine L_v (opv_assign rfl) rfl ?_
    refine L_nil ?_
    exact K_loop ((y.1 + 1, y.2 / 256)) ⟨by show y.1 + 1 ≤ _; omega, by show y.2 / 256 = m / 256 ^ (y.1 + 1); rw [hq, Nat.pow_succ, Nat.div_div_eq_div_mul], by show y.2 / 256 ≤ m; omega⟩ (by show c - (y.1 + 1) < _; omega) ⟨rfl, rfl, rfl, rfl, trivial⟩ Ent.take
  · refine J_exit ?_
    refine K_then_exit ?_
    refine K_then_exit ?_
    refine K_block_here ?_
    refine K_then ?_
    refine J_seq ?_
    refine J_region ?_
    refine L_v (opv_move rfl) rfl ?_
    refine L_v (opv_assign rfl) rfl ?_
    refine L_nil ?_
    refine K_then ?_
    refine J_ret ?_
    have he : y.1 = c := by omega
    exact K_ret1 rfl rfl () trivial ((by rw [he])) Ent.take

theorem Link_ok (n : Nat) (h : 1 ≤ n ∧ n ≤ 65535) : FSpec Tryd.prog 10 #[.int .i64 (n : Nat)] (emp) (fun _ : Unit => True) (fun _ => .tuple #[.agg #[.int .u8 3, .int .u8 0, .int .u8 0, .int .u8 0, .int .u8 ((n / 256 % 256 : Nat) : Int), .int .u8 ((n % 256 : Nat) : Int)], .int .i64 0]) (fun _ => emp) := by
  refine FSpec.enter' Tryd.func10 rfl Tryd.ntmps10 rfl fun σ F => ?_
  refine J_emp ?_
  refine J_seq ?_
  refine J_region ?_
  refine L_x rfl (opx_alloc rfl) (fun b2 _ => ?_)
  refine L_v (opv_assign rfl) rfl ?_
  refine L_nil ?_
  refine K_then ?_
  refine J_seq ?_
  refine J_seq ?_
  refine J_region ?_
  refine L_v (opv_move rfl) rfl ?_
  refine L_v ((opv_lss rfl rfl).bool_f (by omega)) rfl ?_
  refine L_v (opv_move rfl) rfl ?_
  refine L_gon rfl rfl rfl ?_
  refine L_v (opv_move rfl) rfl ?_
  refine L_gon rfl rfl rfl ?_
  refine L_v ((opv_gtr rfl rfl).bool_f (by omega)) rfl ?_
  first
    | refine L_v (opv_pick_tt rfl rfl) rfl ?_
    | refine L_v (opv_pick_ff rfl rfl) rfl ?_
    | refine L_v (opv_pick rfl rfl rfl) rfl ?_
  refine L_nil ?_
  refine K_then ?_
  refine J_cond_false rfl ?_
  refine J_skip ?_
  refine K_then ?_
  refine J_seq ?_
  refine J_region ?_
  refine L_v (opv_buildA (pl := [(0, 1), (1, 1), (2, 1), (3, 1), (4, 1), (5, 1)]) rfl rfl) rfl ?_
  refine L_x rfl (opx_alloc rfl) (fun b4 _ => ?_)
  refine L_x rfl (opx_store rfl rfl rfl (by simp [Value.oneCell'])) (fun _ _ => ?_)
  refine L_nil ?_
  refine K_then ?_
  refine J_seq ?_
  refine J_region ?_
  refine L_v (opv_move rfl) rfl ?_
  refine L_x rfl (opx_call0 (two_spec n (by omega)) rfl rfl rfl) (fun _ _ => ?_)
  refine L_emp ?_
  refine L_v (opv_move rfl) rfl ?_
  refine L_v (opv_extract (v := .int .u8 ((n / 256 % 256 : Nat) : Int)) rfl rfl) rfl ?_
  refine L_v (opv_extract (v := .int .u8 ((n % 256 : Nat) : Int)) rfl rfl) rfl ?_
  refine L_v ((opv_indexAddrA rfl rfl (by decide)).as (v' := .pointer (some (ad b4 4))) rfl) rfl ?_
  refine L_x rfl (opx_store rfl rfl rfl (by simp [Value.oneCell'])) (fun _ _ => ?_)
  refine L_v ((opv_indexAddrA rfl rfl (by decide)).as (v' := .pointer (some (ad b4 5))) rfl) rfl ?_
  refine L_x rfl (opx_store rfl rfl rfl (by simp [Value.oneCell'])) (fun _ _ => ?_)
  refine L_nil ?_
  refine K_then ?_
  refine J_seq ?_
  refine J_region ?_
  refine L_v (opv_loadS rfl) rfl ?_
  refine L_x rfl (opx_store rfl rfl rfl (by simp [Value.oneCell'])) (fun _ _ => ?_)
  refine L_v (opv_assign rfl) rfl ?_
  refine L_nil ?_
  refine K_then ?_
  refine J_ret ?_
  exact K_ret2c rfl rfl rfl rfl () trivial rfl Ent.take

theorem Link_bad (n : Int) (h : ¬ (1 ≤ n ∧ n ≤ 65535)) : FSpec Tryd.prog 10 #[.int .i64 n] (emp) (fun _ : Unit => True) (fun _ => .tuple #[.agg #[.int .u8 0, .int .u8 0, .int .u8 0, .int .u8 0, .int .u8 0, .int .u8 0], .int .i64 1]) (fun _ => emp) := by
  refine FSpec.enter' Tryd.func10 rfl Tryd.ntmps10 rfl fun σ F => ?_
  refine J_emp ?_
  refine J_seq ?_
  refine J_region ?_
  refine L_x rfl (opx_alloc rfl) (fun b2 _ => ?_)
  refine L_v (opv_assign rfl) rfl ?_
  refine L_nil ?_
  refine K_then ?_
  refine J_seq ?_
  refine J_seq ?_
  refine J_region ?_
  refine L_v (opv_move rfl) rfl ?_
  refine L_v (opv_lss rfl rfl) rfl ?_
  refine L_v (opv_move rfl) rfl ?_
  refine L_gf rfl rfl (fun h1 => ?_) (fun h1 => ?_) (fun _ h => by cases h; rfl)
  · refine L_v (opv_move rfl) rfl ?_
    refine L_gf_on h1 rfl rfl ?_
    refine L_v (opv_gtr rfl rfl) rfl ?_
    refine L_v (opv_pick_f rfl h1 rfl) rfl ?_
    refine L_nil ?_
    refine K_then ?_
    refine J_cond rfl (fun h2 => ?_) (fun h2 => by exfalso; omega)
    refine J_seq ?_
    refine J_region ?_
    refine L_v (opv_buildA (pl := [(0, 1), (1, 1), (2, 1), (3, 1), (4, 1), (5, 1)]) rfl rfl) rfl ?_
    refine L_x rfl (opx_store rfl rfl rfl (by simp [Value.oneCell'])) (fun _ _ => ?_)
    refine L_v (opv_assign rfl) rfl ?_
    refine L_nil ?_
    refine K_then ?_
    refine J_ret ?_
    refine K_then_ret ?_
    exact K_ret2c rfl rfl rfl rfl () trivial rfl Ent.take
  · refine L_gf_off h1 rfl rfl ?_ (fun _ h => by cases h; rfl)
    refine L_v (opv_pick_t rfl h1 rfl) rfl ?_
    refine L_nil ?_
    refine K_then ?_
    refine J_cond_true rfl ?_
    refine J_seq ?_
    refine J_region ?_
    refine L_v (opv_buildA (pl := [(0, 1), (1, 1), (2, 1), (3, 1), (4, 1), (5, 1)]) rfl rfl) rfl ?_
    refine L_x rfl (opx_store rfl rfl rfl (by simp [Value.oneCell'])) (fun _ _ => ?_)
    refine L_v (opv_assign rfl) rfl ?_
    refine L_nil ?_
    refine K_then ?_
    refine J_ret ?_
    refine K_then_ret ?_
    exact K_ret2c rfl rfl rfl rfl () trivial rfl Ent.take

theorem RLink_ok (n : Nat) (h : 1 ≤ n ∧ n ≤ 65535) : FSpec Tryd.prog 11 #[.int .i64 (n : Nat)] (emp) (fun _ : Unit => True) (fun _ => .tuple #[.string ((⟨#[3, 0, 0, 0]⟩ : ByteArray) ++ be n 2), .int .i64 0]) (fun _ => emp) := by
  refine FSpec.enter' Tryd.func11 rfl Tryd.ntmps11 rfl fun σ F => ?_
  refine J_seq ?_
  refine J_region ?_
  refine L_v (opv_assign rfl) rfl ?_
  refine L_v (opv_assign rfl) rfl ?_
  refine L_nil ?_
  refine K_then ?_
  refine J_seq ?_
  refine J_seq ?_
  refine J_region ?_
  refine L_v (opv_move rfl) rfl ?_
  refine L_v ((opv_lss rfl rfl).bool_f (by omega)) rfl ?_
  refine L_v (opv_move rfl) rfl ?_
  refine L_gon rfl rfl rfl ?_
  refine L_v (opv_move rfl) rfl ?_
  refine L_gon rfl rfl rfl ?_
  refine L_v ((opv_gtr rfl rfl).bool_f (by omega)) rfl ?_
  first
    | refine L_v (opv_pick_tt rfl rfl) rfl ?_
    | refine L_v (opv_pick_ff rfl rfl) rfl ?_
    | refine L_v (opv_pick rfl rfl rfl) rfl ?_
  refine L_nil ?_
  refine K_then ?_
  refine J_cond_false rfl ?_
  refine J_skip ?_
  refine K_then ?_
  refine J_seq ?_
  refine J_region ?_
  refine L_v (opv_move rfl) rfl ?_
  refine L_x rfl (opx_call0 (RNum_spec n 2 (by omega) (by decide)) rfl rfl rfl) (fun _ _ => ?_)
  refine L_emp ?_
  refine L_v ((opv_addS rfl rfl (by rw [be_size]; decide))) rfl ?_
  refine L_v (opv_assign rfl) rfl ?_
  refine L_v (opv_assign rfl) rfl ?_
  refine L_nil ?_
  refine K_then ?_
  refine J_ret ?_
  exact K_ret2 rfl rfl rfl () trivial rfl (Ent.refl _)

theorem RLink_bad (n : Int) (h : ¬ (1 ≤ n ∧ n ≤ 65535)) : FSpec Tryd.prog 11 #[.int .i64 n] (emp) (fun _ : Unit => True) (fun _ => .tuple #[.string (⟨#[]⟩), .int .i64 1]) (fun _ => emp) := by
  refine FSpec.enter' Tryd.func11 rfl Tryd.ntmps11 rfl fun σ F => ?_
  refine J_seq ?_
  refine J_region ?_
  refine L_v (opv_assign rfl) rfl ?_
  refine L_v (opv_assign rfl) rfl ?_
  refine L_nil ?_
  refine K_then ?_
  refine J_seq ?_
  refine J_seq ?_
  refine J_region ?_
  refine L_v (opv_move rfl) rfl ?_
  refine L_v (opv_lss rfl rfl) rfl ?_
  refine L_v (opv_move rfl) rfl ?_
  refine L_gf rfl rfl (fun h1 => ?_) (fun h1 => ?_) (fun _ h => by cases h; rfl)
  · refine L_v (opv_move rfl) rfl ?_
    refine L_gf_on h1 rfl rfl ?_
    refine L_v (opv_gtr rfl rfl) rfl ?_
    refine L_v (opv_pick_f rfl h1 rfl) rfl ?_
    refine L_nil ?_
    refine K_then ?_
    refine J_cond rfl (fun h2 => ?_) (fun h2 => by exfalso; omega)
    refine J_seq ?_
    refine J_region ?_
    refine L_v (opv_assign rfl) rfl ?_
    refine L_v (opv_assign rfl) rfl ?_
    refine L_nil ?_
    refine K_then ?_
    refine J_ret ?_
    refine K_then_ret ?_
    exact K_ret2 rfl rfl rfl () trivial rfl (Ent.refl _)
  · refine L_gf_off h1 rfl rfl ?_ (fun _ h => by cases h; rfl)
    refine L_v (opv_pick_t rfl h1 rfl) rfl ?_
    refine L_nil ?_
    refine K_then ?_
    refine J_cond_true rfl ?_
    refine J_seq ?_
    refine J_region ?_
    refine L_v (opv_assign rfl) rfl ?_
    refine L_v (opv_assign rfl) rfl ?_
    refine L_nil ?_
    refine K_then ?_
    refine J_ret ?_
    refine K_then_ret ?_
    exact K_ret2 rfl rfl rfl () trivial rfl (Ent.refl _)

theorem Group_ok (n : Nat) (h : 1 ≤ n ∧ n ≤ 65535) : FSpec Tryd.prog 17 #[.int .i64 (n : Nat)] (emp) (fun _ : Unit => True) (fun _ => .tuple #[.agg #[.int .u8 224, .int .u8 224, .int .u8 ((n / 256 % 256 : Nat) : Int), .int .u8 ((n % 256 : Nat) : Int)], .int .i64 0]) (fun _ => emp) := by
  refine FSpec.enter' Tryd.func17 rfl Tryd.ntmps17 rfl fun σ F => ?_
  refine J_emp ?_
  refine J_seq ?_
  refine J_region ?_
  refine L_x rfl (opx_alloc rfl) (fun b2 _ => ?_)
  refine L_v (opv_assign rfl) rfl ?_
  refine L_nil ?_
  refine K_then ?_
  refine J_seq ?_
  refine J_seq ?_
  refine J_region ?_
  refine L_v (opv_move rfl) rfl ?_
  refine L_v ((opv_lss rfl rfl).bool_f (by omega)) rfl ?_
  refine L_v (opv_move rfl) rfl ?_
  refine L_gon rfl rfl rfl ?_
  refine L_v (opv_move rfl) rfl ?_
  refine L_gon rfl rfl rfl ?_
  refine L_v ((opv_gtr rfl rfl).bool_f (by omega)) rfl ?_
  first
    | refine L_v (opv_pick_tt rfl rfl) rfl ?_
    | refine L_v (opv_pick_ff rfl rfl) rfl ?_
    | refine L_v (opv_pick rfl rfl rfl) rfl ?_
  refine L_nil ?_
  refine K_then ?_
  refine J_cond_false rfl ?_
  refine J_skip ?_
  refine K_then ?_
  refine J_seq ?_
  refine J_region ?_
  refine L_v (opv_buildA (pl := [(0, 1), (1, 1), (2, 1), (3, 1)]) rfl rfl) rfl ?_
  refine L_x rfl (opx_alloc rfl) (fun b4 _ => ?_)
  refine L_x rfl (opx_store rfl rfl rfl (by simp [Value.oneCell'])) (fun _ _ => ?_)
  refine L_nil ?_
  refine K_then ?_
  refine J_seq ?_
  refine J_region ?_
  refine L_v (opv_move rfl) rfl ?_
  refine L_x rfl (opx_call0 (two_spec n (by omega)) rfl rfl rfl) (fun _ _ => ?_)
  refine L_emp ?_
  refine L_v (opv_move rfl) rfl ?_
  refine L_v (opv_extract (v := .int .u8 ((n / 256 % 256 : Nat) : Int)) rfl rfl) rfl ?_
  refine L_v (opv_extract (v := .int .u8 ((n % 256 : Nat) : Int)) rfl rfl) rfl ?_
  refine L_v ((opv_indexAddrA rfl rfl (by decide)).as (v' := .pointer (some (ad b4 2))) rfl) rfl ?_
  refine L_x rfl (opx_store rfl rfl rfl (by simp [Value.oneCell'])) (fun _ _ => ?_)
  refine L_v ((opv_indexAddrA rfl rfl (by decide)).as (v' := .pointer (some (ad b4 3))) rfl) rfl ?_
  refine L_x rfl (opx_store rfl rfl rfl (by simp [Value.oneCell'])) (fun _ _ => ?_)
  refine L_nil ?_
  refine K_then ?_
  refine J_seq ?_
  refine J_region ?_
  refine L_v (opv_loadS rfl) rfl ?_
  refine L_x rfl (opx_store rfl rfl rfl (by simp [Value.oneCell'])) (fun _ _ => ?_)
  refine L_v (opv_assign rfl) rfl ?_
  refine L_nil ?_
  refine K_then ?_
  refine J_ret ?_
  exact K_ret2c rfl rfl rfl rfl () trivial rfl Ent.take

theorem Group_bad (n : Int) (h : ¬ (1 ≤ n ∧ n ≤ 65535)) : FSpec Tryd.prog 17 #[.int .i64 n] (emp) (fun _ : Unit => True) (fun _ => .tuple #[.agg #[.int .u8 0, .int .u8 0, .int .u8 0, .int .u8 0], .int .i64 1]) (fun _ => emp) := by
  refine FSpec.enter' Tryd.func17 rfl Tryd.ntmps17 rfl fun σ F => ?_
  refine J_emp ?_
  refine J_seq ?_
  refine J_region ?_
  refine L_x rfl (opx_alloc rfl) (fun b2 _ => ?_)
  refine L_v (opv_assign rfl) rfl ?_
  refine L_nil ?_
  refine K_then ?_
  refine J_seq ?_
  refine J_seq ?_
  refine J_region ?_
  refine L_v (opv_move rfl) rfl ?_
  refine L_v (opv_lss rfl rfl) rfl ?_
  refine L_v (opv_move rfl) rfl ?_
  refine L_gf rfl rfl (fun h1 => ?_) (fun h1 => ?_) (fun _ h => by cases h; rfl)
  · refine L_v (opv_move rfl) rfl ?_
    refine L_gf_on h1 rfl rfl ?_
    refine L_v (opv_gtr rfl rfl) rfl ?_
    refine L_v (opv_pick_f rfl h1 rfl) rfl ?_
    refine L_nil ?_
    refine K_then ?_
    refine J_cond rfl (fun h2 => ?_) (fun h2 => by exfalso; omega)
    refine J_seq ?_
    refine J_region ?_
    refine L_v (opv_buildA (pl := [(0, 1), (1, 1), (2, 1), (3, 1)]) rfl rfl) rfl ?_
    refine L_x rfl (opx_store rfl rfl rfl (by simp [Value.oneCell'])) (fun _ _ => ?_)
    refine L_v (opv_assign rfl) rfl ?_
    refine L_nil ?_
    refine K_then ?_
    refine J_ret ?_
    refine K_then_ret ?_
    exact K_ret2c rfl rfl rfl rfl () trivial rfl Ent.take
  · refine L_gf_off h1 rfl rfl ?_ (fun _ h => by cases h; rfl)
    refine L_v (opv_pick_t rfl h1 rfl) rfl ?_
    refine L_nil ?_
    refine K_then ?_
    refine J_cond_true rfl ?_
    refine J_seq ?_
    refine J_region ?_
    refine L_v (opv_buildA (pl := [(0, 1), (1, 1), (2, 1), (3, 1)]) rfl rfl) rfl ?_
    refine L_x rfl (opx_store rfl rfl rfl (by simp [Value.oneCell'])) (fun _ _ => ?_)
    refine L_v (opv_assign rfl) rfl ?_
    refine L_nil ?_
    refine K_then ?_
    refine J_ret ?_
    refine K_then_ret ?_
    exact K_ret2c rfl rfl rfl rfl () trivial rfl Ent.take

theorem RGroup_ok (n : Nat) (h : 1 ≤ n ∧ n ≤ 65535) : FSpec Tryd.prog 18 #[.int .i64 (n : Nat)] (emp) (fun _ : Unit => True) (fun _ => .tuple #[.string ((⟨#[224, 224]⟩ : ByteArray) ++ be n 2), .int .i64 0]) (fun _ => emp) := by
  refine FSpec.enter' Tryd.func18 rfl Tryd.ntmps18 rfl fun σ F => ?_
  refine J_seq ?_
  refine J_region ?_
  refine L_v (opv_assign rfl) rfl ?_
  refine L_v (opv_assign rfl) rfl ?_
  refine L_nil ?_
  refine K_then ?_
  refine J_seq ?_
  refine J_seq ?_
  refine J_region ?_
  refine L_v (opv_move rfl) rfl ?_
  refine L_v ((opv_lss rfl rfl).bool_f (by omega)) rfl ?_
  refine L_v (opv_move rfl) rfl ?_
  refine L_gon rfl rfl rfl ?_
  refine L_v (opv_move rfl) rfl ?_
  refine L_gon rfl rfl rfl ?_
  refine L_v ((opv_gtr rfl rfl).bool_f (by omega)) rfl ?_
  first
    | refine L_v (opv_pick_tt rfl rfl) rfl ?_
    | refine L_v (opv_pick_ff rfl rfl) rfl ?_
    | refine L_v (opv_pick rfl rfl rfl) rfl ?_
  refine L_nil ?_
  refine K_then ?_
  refine J_cond_false rfl ?_
  refine J_skip ?_
  refine K_then ?_
  refine J_seq ?_
  refine J_region ?_
  refine L_v (opv_move rfl) rfl ?_
  refine L_x rfl (opx_call0 (RNum_spec n 2 (by omega) (by decide)) rfl rfl rfl) (fun _ _ => ?_)
  refine L_emp ?_
  refine L_v ((opv_addS rfl rfl (by rw [be_size]; decide))) rfl ?_
  refine L_v (opv_assign rfl) rfl ?_
  refine L_v (opv_assign rfl) rfl ?_
  refine L_nil ?_
  refine K_then ?_
  refine J_ret ?_
  exact K_ret2 rfl rfl rfl () trivial rfl (Ent.refl _)

theorem RGroup_bad (n : Int) (h : ¬ (1 ≤ n ∧ n ≤ 65535)) : FSpec Tryd.prog 18 #[.int .i64 n] (emp) (fun _ : Unit => True) (fun _ => .tuple #[.string (⟨#[]⟩), .int .i64 1]) (fun _ => emp) := by
  refine FSpec.enter' Tryd.func18 rfl Tryd.ntmps18 rfl fun σ F => ?_
  refine J_seq ?_
  refine J_region ?_
  refine L_v (opv_assign rfl) rfl ?_
  refine L_v (opv_assign rfl) rfl ?_
  refine L_nil ?_
  refine K_then ?_
  refine J_seq ?_
  refine J_seq ?_
  refine J_region ?_
  refine L_v (opv_move rfl) rfl ?_
  refine L_v (opv_lss rfl rfl) rfl ?_
  refine L_v (opv_move rfl) rfl ?_
  refine L_gf rfl rfl (fun h1 => ?_) (fun h1 => ?_) (fun _ h => by cases h; rfl)
  · refine L_v (opv_move rfl) rfl ?_
    refine L_gf_on h1 rfl rfl ?_
    refine L_v (opv_gtr rfl rfl) rfl ?_
    refine L_v (opv_pick_f rfl h1 rfl) rfl ?_
    refine L_nil ?_
    refine K_then ?_
    refine J_cond rfl (fun h2 => ?_) (fun h2 => by exfalso; omega)
    refine J_seq ?_
    refine J_region ?_
    refine L_v (opv_assign rfl) rfl ?_
    refine L_v (opv_assign rfl) rfl ?_
    refine L_nil ?_
    refine K_then ?_
    refine J_ret ?_
    refine K_then_ret ?_
    exact K_ret2 rfl rfl rfl () trivial rfl (Ent.refl _)
  · refine L_gf_off h1 rfl rfl ?_ (fun _ h => by cases h; rfl)
    refine L_v (opv_pick_t rfl h1 rfl) rfl ?_
    refine L_nil ?_
    refine K_then ?_
    refine J_cond_true rfl ?_
    refine J_seq ?_
    refine J_region ?_
    refine L_v (opv_assign rfl) rfl ?_
    refine L_v (opv_assign rfl) rfl ?_
    refine L_nil ?_
    refine K_then ?_
    refine J_ret ?_
    refine K_then_ret ?_
    exact K_ret2 rfl rfl rfl () trivial rfl (Ent.refl _)

end Go.Proofs.YtkkoepnljofhpaaDoor
