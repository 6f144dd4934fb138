/- The law FragCounts of the package pitotlaw08 holds for every input: how many bytes a part carries at most, and how many parts so many bytes become. No condition. -/
import Derived.Test.YtjpbpfihacfndaaT
import Derived.Test.YtjpbpfihacfndaaS
import Derived.Test.YtjpbpfihacfndaaZ
import Derived.Test.YtjpbpfihacfndaaRows
import Derived.Test.YtjpbpfihacfndaaH
namespace Go.Proofs.Ytjpbpfihacfndaa
open Go.SLA
set_option maxRecDepth 100000
set_option linter.unusedVariables false
set_option linter.unusedSimpArgs false
attribute [local irreducible] J L K QL Rg FSpec OpV OpX Rd Back

/-- How many bytes a part carries at most. -/
def roomN (m : Nat) : Nat := (m - 39) / 8 * 8
def sizeB (m : Int) : Prop := 64 ≤ m ∧ m ≤ 1518
instance (m : Int) : Decidable (sizeB m) := inferInstanceAs (Decidable (_ ∧ _))
def partsN (l m : Nat) : Nat := 1 + ((l - (m - 39)) + roomN m - 1) / roomN m
theorem roomN_ge {m : Nat} (h : 64 ≤ m) : 24 ≤ roomN m ∧ roomN m ≤ m - 39 ∧ m - 39 < roomN m + 8 ∧ roomN m % 8 = 0 := by unfold roomN; omega
theorem partsN_one {l m : Nat} (h : 64 ≤ m) (hl : l ≤ m - 39) : partsN l m = 1 := by
  have := roomN_ge h
  unfold partsN
  rw [show l - (m - 39) = 0 by omega, Nat.div_eq_of_lt (by omega)]
theorem partsN_more {l m : Nat} (h : 64 ≤ m) (hl : m - 39 < l) : partsN l m = 1 + partsN (l - roomN m) m := by
  have hr := roomN_ge h
  unfold partsN
  rcases Nat.le_total (l - (m - 39)) (roomN m) with hd | hd
  · rw [show l - roomN m - (m - 39) = 0 by omega, Nat.div_eq_of_lt (show 0 + roomN m - 1 < roomN m by omega)]
    rw [show l - (m - 39) + roomN m - 1 = (l - (m - 39) - 1) + roomN m by omega, Nat.add_div_right _ (by omega)]
    rw [Nat.div_eq_of_lt (by omega)]
  · rw [show l - (m - 39) + roomN m - 1 = (l - roomN m - (m - 39) + roomN m - 1) + roomN m by omega, Nat.add_div_right _ (by omega)]
    omega
theorem andNot7 : ∀ x : Nat, x < 1500 → (BitVec.ofInt 64 (x : Int) &&& ~~~ BitVec.ofInt 64 7).toNat = x / 8 * 8 := by decide +kernel
theorem clear7 {x : Nat} (h : x < 1500) : Value.int .i64 (IntKind.i64.wrap (((BitVec.ofInt IntKind.i64.bits (x : Int) &&& ~~~ BitVec.ofInt IntKind.i64.bits 7).toNat : Nat) : Int)) = .int .i64 ((x / 8 * 8 : Nat) : Int) := by
  have := andNot7 x h
  show Value.int .i64 (IntKind.i64.wrap (((BitVec.ofInt 64 (x : Int) &&& ~~~ BitVec.ofInt 64 7).toNat : Nat) : Int)) = _
  rw [this, Go.IntWalk.i64_in _ (by omega)]
/-- How many parts so many bytes become, or why none. -/
def cntN (l m : Int) : Int × Int := if ¬ sizeB m then (0, 1) else if l < 0 then (0, 1) else if 65515 < l then (0, 11) else ((partsN l.toNat m.toNat : Nat), 0)

theorem whole_spec (m : Int) (h : -9000000000000000000 ≤ m ∧ m ≤ 9000000000000000000) : FSpec Try.prog 40 #[.int .i64 m] (emp) (fun _ : Unit => True) (fun _ => .int .i64 (m - 39)) (fun _ => emp) := by
  refine FSpec.enter' Try.func40 rfl Try.ntmps40 rfl fun σ F => ?_
  refine J_seq ?_
  refine J_region ?_
  refine L_v (opv_assign rfl) rfl ?_
  refine L_nil ?_
  refine K_then ?_
  refine J_seq ?_
  refine J_region ?_
  refine L_v (opv_move rfl) rfl ?_
  first
    | refine L_v (opv_sub64 rfl rfl (by omega)) rfl ?_
    | refine L_v (opv_sub rfl rfl) rfl ?_
  first
    | refine L_v (opv_sub64 rfl rfl (by omega)) rfl ?_
    | refine L_v (opv_sub rfl rfl) rfl ?_
  refine L_v (opv_assign rfl) rfl ?_
  refine L_nil ?_
  refine K_then ?_
  refine J_ret ?_
  exact K_ret1 rfl rfl () trivial (congrArg (Value.int .i64) (by omega)) (Ent.refl _)

theorem Room_bad (m : Int) (h : ¬ sizeB m) : FSpec Try.prog 15 #[.int .i64 m] (emp) (fun _ : Unit => True) (fun _ => .tuple #[.int .i64 0, .int .i64 1]) (fun _ => emp) := by
  unfold sizeB at h
  refine FSpec.enter' Try.func15 rfl Try.ntmps15 rfl fun σ F => ?_
  refine J_seq ?_
  refine J_region ?_
  refine L_v (opv_assign rfl) rfl ?_
  refine L_v (opv_assign rfl) rfl ?_
  refine L_nil ?_
  refine K_then ?_
  refine J_seq ?_
  refine J_seq ?_
  refine J_region ?_
  refine L_v (opv_move rfl) rfl ?_
  refine L_v (opv_lss rfl rfl) rfl ?_
  refine L_v (opv_move rfl) rfl ?_
  refine L_gf rfl rfl (fun h1 => ?_) (fun h1 => ?_) (fun _ h => by cases h; rfl)
  · refine L_v (opv_move rfl) rfl ?_
    refine L_gf_on h1 rfl rfl ?_
    refine L_v (opv_gtr rfl rfl) rfl ?_
    refine L_v (opv_pick_f rfl h1 rfl) rfl ?_
    refine L_nil ?_
    refine K_then ?_
    refine J_cond rfl (fun h2 => ?_) (fun h2 => by exfalso; omega)
    refine J_seq ?_
    refine J_region ?_
    refine L_v (opv_assign rfl) rfl ?_
    refine L_v (opv_assign rfl) rfl ?_
    refine L_nil ?_
    refine K_then ?_
    refine J_ret ?_
    refine K_then_ret ?_
    exact K_ret2 rfl rfl rfl () trivial (rfl) (Ent.refl _)
  · refine L_gf_off h1 rfl rfl ?_ (fun _ h => by cases h; rfl)
    refine L_v (opv_pick_t rfl h1 rfl) rfl ?_
    refine L_nil ?_
    refine K_then ?_
    refine J_cond_true rfl ?_
    refine J_seq ?_
    refine J_region ?_
    refine L_v (opv_assign rfl) rfl ?_
    refine L_v (opv_assign rfl) rfl ?_
    refine L_nil ?_
    refine K_then ?_
    refine J_ret ?_
    refine K_then_ret ?_
    exact K_ret2 rfl rfl rfl () trivial (rfl) (Ent.refl _)

theorem Room_ok (m : Nat) (h : 64 ≤ m ∧ m ≤ 1518) : FSpec Try.prog 15 #[.int .i64 m] (emp) (fun _ : Unit => True) (fun _ => .tuple #[.int .i64 (roomN m : Nat), .int .i64 0]) (fun _ => emp) := by
  refine FSpec.enter' Try.func15 rfl Try.ntmps15 rfl fun σ F => ?_
  refine J_seq ?_
  refine J_region ?_
  refine L_v (opv_assign rfl) rfl ?_
  refine L_v (opv_assign rfl) rfl ?_
  refine L_nil ?_
  refine K_then ?_
  refine J_seq ?_
  refine J_seq ?_
  refine J_region ?_
  refine L_v (opv_move rfl) rfl ?_
  refine L_v ((opv_lss rfl rfl).bool_f (by omega)) rfl ?_
  refine L_v (opv_move rfl) rfl ?_
  refine L_gon rfl rfl rfl ?_
  refine L_v (opv_move rfl) rfl ?_
  refine L_gon rfl rfl rfl ?_
  refine L_v ((opv_gtr rfl rfl).bool_f (by omega)) rfl ?_
  first
    | refine L_v (opv_pick_tt rfl rfl) rfl ?_
    | refine L_v (opv_pick_ff rfl rfl) rfl ?_
    | refine L_v (opv_pick rfl rfl rfl) rfl ?_
  refine L_nil ?_
  refine K_then ?_
  refine J_cond_false rfl ?_
  refine J_skip ?_
  refine K_then ?_
  refine J_seq ?_
  refine J_region ?_
  refine L_v (opv_move rfl) rfl ?_
  refine L_x rfl (opx_call0 (whole_spec m (by omega)) rfl rfl rfl) (fun _ _ => ?_)
  refine L_emp ?_
  rw [show (m : Int) - 39 = ((m - 39 : Nat) : Int) by omega]
  refine L_v ((opv_andNot rfl rfl).as (clear7 (x := m - 39) (by omega))) rfl ?_
  refine L_v (opv_assign rfl) rfl ?_
  refine L_v (opv_assign rfl) rfl ?_
  refine L_nil ?_
  refine K_then ?_
  refine J_ret ?_
  exact K_ret2 rfl rfl rfl () trivial (rfl) (Ent.refl _)

theorem RRoom_bad (m : Int) (h : ¬ sizeB m) : FSpec Try.prog 16 #[.int .i64 m] (emp) (fun _ : Unit => True) (fun _ => .tuple #[.int .i64 0, .int .i64 1]) (fun _ => emp) := by
  unfold sizeB at h
  refine FSpec.enter' Try.func16 rfl Try.ntmps16 rfl fun σ F => ?_
  refine J_seq ?_
  refine J_region ?_
  refine L_v (opv_assign rfl) rfl ?_
  refine L_v (opv_assign rfl) rfl ?_
  refine L_nil ?_
  refine K_then ?_
  refine J_seq ?_
  refine J_seq ?_
  refine J_region ?_
  refine L_v (opv_move rfl) rfl ?_
  refine L_v (opv_lss rfl rfl) rfl ?_
  refine L_v (opv_move rfl) rfl ?_
  refine L_gf rfl rfl (fun h1 => ?_) (fun h1 => ?_) (fun _ h => by cases h; rfl)
  · refine L_v (opv_move rfl) rfl ?_
    refine L_gf_on h1 rfl rfl ?_
    refine L_v (opv_gtr rfl rfl) rfl ?_
    refine L_v (opv_pick_f rfl h1 rfl) rfl ?_
    refine L_nil ?_
    refine K_then ?_
    refine J_cond rfl (fun h2 => ?_) (fun h2 => by exfalso; omega)
    refine J_seq ?_
    refine J_region ?_
    refine L_v (opv_assign rfl) rfl ?_
    refine L_v (opv_assign rfl) rfl ?_
    refine L_nil ?_
    refine K_then ?_
    refine J_ret ?_
    refine K_then_ret ?_
    exact K_ret2 rfl rfl rfl () trivial (rfl) (Ent.refl _)
  · refine L_gf_off h1 rfl rfl ?_ (fun _ h => by cases h; rfl)
    refine L_v (opv_pick_t rfl h1 rfl) rfl ?_
    refine L_nil ?_
    refine K_then ?_
    refine J_cond_true rfl ?_
    refine J_seq ?_
    refine J_region ?_
    refine L_v (opv_assign rfl) rfl ?_
    refine L_v (opv_assign rfl) rfl ?_
    refine L_nil ?_
    refine K_then ?_
    refine J_ret ?_
    refine K_then_ret ?_
    exact K_ret2 rfl rfl rfl () trivial (rfl) (Ent.refl _)

theorem RRoom_ok (m : Nat) (h : 64 ≤ m ∧ m ≤ 1518) : FSpec Try.prog 16 #[.int .i64 m] (emp) (fun _ : Unit => True) (fun _ => .tuple #[.int .i64 (roomN m : Nat), .int .i64 0]) (fun _ => emp) := by
  refine FSpec.enter' Try.func16 rfl Try.ntmps16 rfl fun σ F => ?_
  refine J_seq ?_
  refine J_region ?_
  refine L_v (opv_assign rfl) rfl ?_
  refine L_v (opv_assign rfl) rfl ?_
  refine L_nil ?_
  refine K_then ?_
  refine J_seq ?_
  refine J_seq ?_
  refine J_region ?_
  refine L_v (opv_move rfl) rfl ?_
  refine L_v ((opv_lss rfl rfl).bool_f (by omega)) rfl ?_
  refine L_v (opv_move rfl) rfl ?_
  refine L_gon rfl rfl rfl ?_
  refine L_v (opv_move rfl) rfl ?_
  refine L_gon rfl rfl rfl ?_
  refine L_v ((opv_gtr rfl rfl).bool_f (by omega)) rfl ?_
  first
    | refine L_v (opv_pick_tt rfl rfl) rfl ?_
    | refine L_v (opv_pick_ff rfl rfl) rfl ?_
    | refine L_v (opv_pick rfl rfl rfl) rfl ?_
  refine L_nil ?_
  refine K_then ?_
  refine J_cond_false rfl ?_
  refine J_skip ?_
  refine K_then ?_
  refine J_seq ?_
  refine J_region ?_
  refine L_v (opv_move rfl) rfl ?_
  first
    | refine L_v (opv_sub64 rfl rfl (by omega)) rfl ?_
    | refine L_v (opv_sub rfl rfl) rfl ?_
  first
    | refine L_v (opv_quoP rfl rfl (by omega)) rfl ?_
    | refine L_v (opv_quo rfl rfl (by omega)) rfl ?_
  first
    | refine L_v (opv_mul64 rfl rfl (by omega)) rfl ?_
    | refine L_v (opv_mul rfl rfl) rfl ?_
  refine L_v (opv_assign rfl) rfl ?_
  refine L_v (opv_assign rfl) rfl ?_
  refine L_nil ?_
  refine K_then ?_
  refine J_ret ?_
  exact K_ret2 rfl rfl rfl () trivial (by unfold roomN; rw [show (m : Int) - 39 = ((m - 39 : Nat) : Int) by omega]; rfl) (Ent.refl _)

theorem Count_size (l m : Int) (h : ¬ sizeB m) : FSpec Try.prog 17 #[.int .i64 l, .int .i64 m] (emp) (fun _ : Unit => True) (fun _ => .tuple #[.int .i64 0, .int .i64 1]) (fun _ => emp) := by
  refine FSpec.enter' Try.func17 rfl Try.ntmps17 rfl fun σ F => ?_
  refine J_seq ?_
  refine J_region ?_
  refine L_v (opv_assign rfl) rfl ?_
  refine L_v (opv_assign rfl) rfl ?_
  refine L_nil ?_
  refine K_then ?_
  refine J_seq ?_
  refine J_region ?_
  refine L_v (opv_move rfl) rfl ?_
  refine L_x rfl (opx_call0 (Room_bad m h) rfl rfl rfl) (fun _ _ => ?_)
  refine L_emp ?_
  refine L_v (opv_move rfl) rfl ?_
  refine L_v (opv_extract rfl rfl) rfl ?_
  refine L_v (opv_extract rfl rfl) rfl ?_
  refine L_v (opv_assign rfl) rfl ?_
  refine L_v (opv_assign rfl) rfl ?_
  refine L_nil ?_
  refine K_then ?_
  refine J_seq ?_
  refine J_block ?_
  refine J_seq ?_
  refine J_region ?_
  refine L_v (opv_move rfl) rfl ?_
  refine L_v ((opv_neq rfl rfl).bool_t (by decide)) rfl ?_
  refine L_v (opv_assign rfl) rfl ?_
  refine L_nil ?_
  refine K_then ?_
  refine J_cond_true rfl ?_
  refine J_seq ?_
  refine J_region ?_
  refine L_v (opv_move rfl) rfl ?_
  refine L_v (opv_assign rfl) rfl ?_
  refine L_v (opv_assign rfl) rfl ?_
  refine L_nil ?_
  refine K_then ?_
  refine J_ret ?_
  refine K_block_ret ?_
  refine K_then_ret ?_
  exact K_ret2 rfl rfl rfl () trivial (rfl) (Ent.refl _)

theorem Count_neg (l : Int) (m : Nat) (h : 64 ≤ m ∧ m ≤ 1518) (hl : l < 0) : FSpec Try.prog 17 #[.int .i64 l, .int .i64 (m : Nat)] (emp) (fun _ : Unit => True) (fun _ => .tuple #[.int .i64 0, .int .i64 1]) (fun _ => emp) := by
  refine FSpec.enter' Try.func17 rfl Try.ntmps17 rfl fun σ F => ?_
  refine J_seq ?_
  refine J_region ?_
  refine L_v (opv_assign rfl) rfl ?_
  refine L_v (opv_assign rfl) rfl ?_
  refine L_nil ?_
  refine K_then ?_
  refine J_seq ?_
  refine J_region ?_
  refine L_v (opv_move rfl) rfl ?_
  refine L_x rfl (opx_call0 (Room_ok m h) rfl rfl rfl) (fun _ _ => ?_)
  refine L_emp ?_
  refine L_v (opv_move rfl) rfl ?_
  refine L_v (opv_extract rfl rfl) rfl ?_
  refine L_v (opv_extract rfl rfl) rfl ?_
  refine L_v (opv_assign rfl) rfl ?_
  refine L_v (opv_assign rfl) rfl ?_
  refine L_nil ?_
  refine K_then ?_
  refine J_seq ?_
  refine J_block ?_
  refine J_seq ?_
  refine J_region ?_
  refine L_v (opv_move rfl) rfl ?_
  refine L_v ((opv_neq rfl rfl).bool_f (by decide)) rfl ?_
  refine L_v (opv_assign rfl) rfl ?_
  refine L_nil ?_
  refine K_then ?_
  refine J_cond_false rfl ?_
  refine J_seq ?_
  refine J_region ?_
  refine L_v (opv_move rfl) rfl ?_
  refine L_v ((opv_lss rfl rfl).bool_t hl) rfl ?_
  refine L_v (opv_assign rfl) rfl ?_
  refine L_nil ?_
  refine K_then ?_
  refine J_cond_true rfl ?_
  refine J_seq ?_
  refine J_region ?_
  refine L_v (opv_assign rfl) rfl ?_
  refine L_v (opv_assign rfl) rfl ?_
  refine L_nil ?_
  refine K_then ?_
  refine J_ret ?_
  refine K_block_ret ?_
  refine K_then_ret ?_
  exact K_ret2 rfl rfl rfl () trivial (rfl) (Ent.refl _)

theorem Count_long (l : Int) (m : Nat) (h : 64 ≤ m ∧ m ≤ 1518) (hl : 65515 < l) : FSpec Try.prog 17 #[.int .i64 l, .int .i64 (m : Nat)] (emp) (fun _ : Unit => True) (fun _ => .tuple #[.int .i64 0, .int .i64 11]) (fun _ => emp) := by
  refine FSpec.enter' Try.func17 rfl Try.ntmps17 rfl fun σ F => ?_
  refine J_seq ?_
  refine J_region ?_
  refine L_v (opv_assign rfl) rfl ?_
  refine L_v (opv_assign rfl) rfl ?_
  refine L_nil ?_
  refine K_then ?_
  refine J_seq ?_
  refine J_region ?_
  refine L_v (opv_move rfl) rfl ?_
  refine L_x rfl (opx_call0 (Room_ok m h) rfl rfl rfl) (fun _ _ => ?_)
  refine L_emp ?_
  refine L_v (opv_move rfl) rfl ?_
  refine L_v (opv_extract rfl rfl) rfl ?_
  refine L_v (opv_extract rfl rfl) rfl ?_
  refine L_v (opv_assign rfl) rfl ?_
  refine L_v (opv_assign rfl) rfl ?_
  refine L_nil ?_
  refine K_then ?_
  refine J_seq ?_
  refine J_block ?_
  refine J_seq ?_
  refine J_region ?_
  refine L_v (opv_move rfl) rfl ?_
  refine L_v ((opv_neq rfl rfl).bool_f (by decide)) rfl ?_
  refine L_v (opv_assign rfl) rfl ?_
  refine L_nil ?_
  refine K_then ?_
  refine J_cond_false rfl ?_
  refine J_seq ?_
  refine J_region ?_
  refine L_v (opv_move rfl) rfl ?_
  refine L_v ((opv_lss rfl rfl).bool_f (by omega)) rfl ?_
  refine L_v (opv_assign rfl) rfl ?_
  refine L_nil ?_
  refine K_then ?_
  refine J_cond_false rfl ?_
  refine J_seq ?_
  refine J_region ?_
  refine L_v (opv_move rfl) rfl ?_
  refine L_v ((opv_gtr rfl rfl).bool_t hl) rfl ?_
  refine L_v (opv_assign rfl) rfl ?_
  refine L_nil ?_
  refine K_then ?_
  refine J_cond_true rfl ?_
  refine J_seq ?_
  refine J_region ?_
  refine L_v (opv_assign rfl) rfl ?_
  refine L_v (opv_assign rfl) rfl ?_
  refine L_nil ?_
  refine K_then ?_
  refine J_ret ?_
  refine K_block_ret ?_
  refine K_then_ret ?_
  exact K_ret2 rfl rfl rfl () trivial (rfl) (Ent.refl _)

theorem Count_ok (l : Nat) (m : Nat) (h : 64 ≤ m ∧ m ≤ 1518) (hl : l ≤ 65515) : FSpec Try.prog 17 #[.int .i64 (l : Nat), .int .i64 (m : Nat)] (emp) (fun _ : Unit => True) (fun _ => .tuple #[.int .i64 (partsN l m : Nat), .int .i64 0]) (fun _ => emp) := by
  have hr := roomN_ge h.1
  refine FSpec.enter' Try.func17 rfl Try.ntmps17 rfl fun σ F => ?_
  refine J_seq ?_
  refine J_region ?_
  refine L_v (opv_assign rfl) rfl ?_
  refine L_v (opv_assign rfl) rfl ?_
  refine L_nil ?_
  refine K_then ?_
  refine J_seq ?_
  refine J_region ?_
  refine L_v (opv_move rfl) rfl ?_
  refine L_x rfl (opx_call0 (Room_ok m h) rfl rfl rfl) (fun _ _ => ?_)
  refine L_emp ?_
  refine L_v (opv_move rfl) rfl ?_
  refine L_v (opv_extract rfl rfl) rfl ?_
  refine L_v (opv_extract rfl rfl) rfl ?_
  refine L_v (opv_assign rfl) rfl ?_
  refine L_v (opv_assign rfl) rfl ?_
  refine L_nil ?_
  refine K_then ?_
  refine J_seq ?_
  refine J_block ?_
  refine J_seq ?_
  refine J_region ?_
  refine L_v (opv_move rfl) rfl ?_
  refine L_v ((opv_neq rfl rfl).bool_f (by decide)) rfl ?_
  refine L_v (opv_assign rfl) rfl ?_
  refine L_nil ?_
  refine K_then ?_
  refine J_cond_false rfl ?_
  refine J_seq ?_
  refine J_region ?_
  refine L_v (opv_move rfl) rfl ?_
  refine L_v ((opv_lss rfl rfl).bool_f (by omega)) rfl ?_
  refine L_v (opv_assign rfl) rfl ?_
  refine L_nil ?_
  refine K_then ?_
  refine J_cond_false rfl ?_
  refine J_seq ?_
  refine J_region ?_
  refine L_v (opv_move rfl) rfl ?_
  refine L_v ((opv_gtr rfl rfl).bool_f (by omega)) rfl ?_
  refine L_v (opv_assign rfl) rfl ?_
  refine L_nil ?_
  refine K_then ?_
  refine J_cond_false rfl ?_
  refine J_skip ?_
  refine K_block ?_
  refine K_then ?_
  refine J_seq ?_
  refine J_region ?_
  refine L_v (opv_move rfl) rfl ?_
  refine L_v (opv_move rfl) rfl ?_
  refine L_x rfl (opx_call0 (whole_spec m (by omega)) rfl rfl rfl) (fun _ _ => ?_)
  refine L_emp ?_
  first
    | refine L_v (opv_sub64 rfl rfl (by omega)) rfl ?_
    | refine L_v (opv_sub rfl rfl) rfl ?_
  refine L_v ((opv_max rfl rfl).as (v' := .int .i64 ((l - (m - 39) : Nat) : Int)) (congrArg (Value.int .i64) (by split <;> omega))) rfl ?_
  refine L_v (opv_assign rfl) rfl ?_
  refine L_nil ?_
  refine K_then ?_
  refine J_seq ?_
  refine J_region ?_
  refine L_v (opv_move rfl) rfl ?_
  refine L_v (opv_move rfl) rfl ?_
  first
    | refine L_v (opv_add64 rfl rfl (by omega)) rfl ?_
    | refine L_v (opv_addS rfl rfl (by omega)) rfl ?_
    | refine L_v (opv_add rfl rfl) rfl ?_
  refine L_v ((opv_sub64 rfl rfl (by omega)).as (v' := .int .i64 ((l - (m - 39) + roomN m - 1 : Nat) : Int)) (congrArg (Value.int .i64) (by omega))) rfl ?_
  refine L_v (opv_move rfl) rfl ?_
  refine L_v ((opv_quoP rfl rfl (by omega)).as (v' := .int .i64 (((l - (m - 39) + roomN m - 1) / roomN m : Nat) : Int)) rfl) rfl ?_
  refine L_v ((opv_add64 rfl rfl (by have : (l - (m - 39) + roomN m - 1) / roomN m ≤ l - (m - 39) + roomN m - 1 := Nat.div_le_self _ _; generalize (l - (m - 39) + roomN m - 1) / roomN m = q at *; omega)).as (v' := .int .i64 ((partsN l m : Nat) : Int)) (congrArg (Value.int .i64) (by unfold partsN; generalize (l - (m - 39) + roomN m - 1) / roomN m = q; omega))) rfl ?_
  refine L_v (opv_assign rfl) rfl ?_
  refine L_v (opv_assign rfl) rfl ?_
  refine L_nil ?_
  refine K_then ?_
  refine J_ret ?_
  exact K_ret2 rfl rfl rfl () trivial (rfl) (Ent.refl _)

theorem RCount_size (l m : Int) (h : ¬ sizeB m) : FSpec Try.prog 18 #[.int .i64 l, .int .i64 m] (emp) (fun _ : Unit => True) (fun _ => .tuple #[.int .i64 0, .int .i64 1]) (fun _ => emp) := by
  refine FSpec.enter' Try.func18 rfl Try.ntmps18 rfl fun σ F => ?_
  refine J_seq ?_
  refine J_region ?_
  refine L_v (opv_assign rfl) rfl ?_
  refine L_v (opv_assign rfl) rfl ?_
  refine L_nil ?_
  refine K_then ?_
  refine J_seq ?_
  refine J_region ?_
  refine L_v (opv_move rfl) rfl ?_
  refine L_x rfl (opx_call0 (RRoom_bad m h) rfl rfl rfl) (fun _ _ => ?_)
  refine L_emp ?_
  refine L_v (opv_move rfl) rfl ?_
  refine L_v (opv_extract rfl rfl) rfl ?_
  refine L_v (opv_extract rfl rfl) rfl ?_
  refine L_v (opv_assign rfl) rfl ?_
  refine L_v (opv_assign rfl) rfl ?_
  refine L_nil ?_
  refine K_then ?_
  refine J_seq ?_
  refine J_seq ?_
  refine J_region ?_
  refine L_v (opv_move rfl) rfl ?_
  refine L_v ((opv_neq rfl rfl).bool_t (by decide)) rfl ?_
  refine L_v (opv_move rfl) rfl ?_
  refine L_gskip rfl rfl rfl ?_ (fun _ h => by cases h; rfl)
  refine L_gskip rfl rfl rfl ?_ (fun _ h => by cases h; rfl)
  first
    | refine L_v (opv_pick_tt rfl rfl) rfl ?_
    | refine L_v (opv_pick_ff rfl rfl) rfl ?_
    | refine L_v (opv_pick rfl rfl rfl) rfl ?_
  refine L_nil ?_
  refine K_then ?_
  refine J_cond_true rfl ?_
  refine J_seq ?_
  refine J_region ?_
  refine L_v (opv_assign rfl) rfl ?_
  refine L_v (opv_assign rfl) rfl ?_
  refine L_nil ?_
  refine K_then ?_
  refine J_ret ?_
  refine K_then_ret ?_
  exact K_ret2 rfl rfl rfl () trivial (rfl) (Ent.refl _)

theorem RCount_neg (l : Int) (m : Nat) (h : 64 ≤ m ∧ m ≤ 1518) (hl : l < 0) : FSpec Try.prog 18 #[.int .i64 l, .int .i64 (m : Nat)] (emp) (fun _ : Unit => True) (fun _ => .tuple #[.int .i64 0, .int .i64 1]) (fun _ => emp) := by
  refine FSpec.enter' Try.func18 rfl Try.ntmps18 rfl fun σ F => ?_
  refine J_seq ?_
  refine J_region ?_
  refine L_v (opv_assign rfl) rfl ?_
  refine L_v (opv_assign rfl) rfl ?_
  refine L_nil ?_
  refine K_then ?_
  refine J_seq ?_
  refine J_region ?_
  refine L_v (opv_move rfl) rfl ?_
  refine L_x rfl (opx_call0 (RRoom_ok m h) rfl rfl rfl) (fun _ _ => ?_)
  refine L_emp ?_
  refine L_v (opv_move rfl) rfl ?_
  refine L_v (opv_extract rfl rfl) rfl ?_
  refine L_v (opv_extract rfl rfl) rfl ?_
  refine L_v (opv_assign rfl) rfl ?_
  refine L_v (opv_assign rfl) rfl ?_
  refine L_nil ?_
  refine K_then ?_
  refine J_seq ?_
  refine J_seq ?_
  refine J_region ?_
  refine L_v (opv_move rfl) rfl ?_
  refine L_v ((opv_neq rfl rfl).bool_f (by decide)) rfl ?_
  refine L_v (opv_move rfl) rfl ?_
  refine L_gon rfl rfl rfl ?_
  refine L_v (opv_move rfl) rfl ?_
  refine L_gon rfl rfl rfl ?_
  refine L_v ((opv_lss rfl rfl).bool_t hl) rfl ?_
  first
    | refine L_v (opv_pick_tt rfl rfl) rfl ?_
    | refine L_v (opv_pick_ff rfl rfl) rfl ?_
    | refine L_v (opv_pick rfl rfl rfl) rfl ?_
  refine L_nil ?_
  refine K_then ?_
  refine J_cond_true rfl ?_
  refine J_seq ?_
  refine J_region ?_
  refine L_v (opv_assign rfl) rfl ?_
  refine L_v (opv_assign rfl) rfl ?_
  refine L_nil ?_
  refine K_then ?_
  refine J_ret ?_
  refine K_then_ret ?_
  exact K_ret2 rfl rfl rfl () trivial (rfl) (Ent.refl _)

theorem RCount_long (l : Int) (m : Nat) (h : 64 ≤ m ∧ m ≤ 1518) (hl : 65515 < l) : FSpec Try.prog 18 #[.int .i64 l, .int .i64 (m : Nat)] (emp) (fun _ : Unit => True) (fun _ => .tuple #[.int .i64 0, .int .i64 11]) (fun _ => emp) := by
  refine FSpec.enter' Try.func18 rfl Try.ntmps18 rfl fun σ F => ?_
  refine J_seq ?_
  refine J_region ?_
  refine L_v (opv_assign rfl) rfl ?_
  refine L_v (opv_assign rfl) rfl ?_
  refine L_nil ?_
  refine K_then ?_
  refine J_seq ?_
  refine J_region ?_
  refine L_v (opv_move rfl) rfl ?_
  refine L_x rfl (opx_call0 (RRoom_ok m h) rfl rfl rfl) (fun _ _ => ?_)
  refine L_emp ?_
  refine L_v (opv_move rfl) rfl ?_
  refine L_v (opv_extract rfl rfl) rfl ?_
  refine L_v (opv_extract rfl rfl) rfl ?_
  refine L_v (opv_assign rfl) rfl ?_
  refine L_v (opv_assign rfl) rfl ?_
  refine L_nil ?_
  refine K_then ?_
  refine J_seq ?_
  refine J_seq ?_
  refine J_region ?_
  refine L_v (opv_move rfl) rfl ?_
  refine L_v ((opv_neq rfl rfl).bool_f (by decide)) rfl ?_
  refine L_v (opv_move rfl) rfl ?_
  refine L_gon rfl rfl rfl ?_
  refine L_v (opv_move rfl) rfl ?_
  refine L_gon rfl rfl rfl ?_
  refine L_v ((opv_lss rfl rfl).bool_f (by omega)) rfl ?_
  first
    | refine L_v (opv_pick_tt rfl rfl) rfl ?_
    | refine L_v (opv_pick_ff rfl rfl) rfl ?_
    | refine L_v (opv_pick rfl rfl rfl) rfl ?_
  refine L_nil ?_
  refine K_then ?_
  refine J_cond_false rfl ?_
  refine J_skip ?_
  refine K_then ?_
  refine J_seq ?_
  refine J_seq ?_
  refine J_region ?_
  refine L_v (opv_move rfl) rfl ?_
  refine L_v ((opv_gtr rfl rfl).bool_t hl) rfl ?_
  refine L_nil ?_
  refine K_then ?_
  refine J_cond_true rfl ?_
  refine J_seq ?_
  refine J_region ?_
  refine L_v (opv_assign rfl) rfl ?_
  refine L_v (opv_assign rfl) rfl ?_
  refine L_nil ?_
  refine K_then ?_
  refine J_ret ?_
  refine K_then_ret ?_
  exact K_ret2 rfl rfl rfl () trivial (rfl) (Ent.refl _)

theorem RCount_ok (l : Nat) (m : Nat) (h : 64 ≤ m ∧ m ≤ 1518) (hl : l ≤ 65515) : FSpec Try.prog 18 #[.int .i64 (l : Nat), .int .i64 (m : Nat)] (emp) (fun _ : Unit => True) (fun _ => .tuple #[.int .i64 (partsN l m : Nat), .int .i64 0]) (fun _ => emp) := by
  have hr := roomN_ge h.1
  refine FSpec.enter' Try.func18 rfl Try.ntmps18 rfl fun σ F => ?_
  refine J_seq ?_
  refine J_region ?_
  refine L_v (opv_assign rfl) rfl ?_
  refine L_v (opv_assign rfl) rfl ?_
  refine L_nil ?_
  refine K_then ?_
  refine J_seq ?_
  refine J_region ?_
  refine L_v (opv_move rfl) rfl ?_
  refine L_x rfl (opx_call0 (RRoom_ok m h) rfl rfl rfl) (fun _ _ => ?_)
  refine L_emp ?_
  refine L_v (opv_move rfl) rfl ?_
  refine L_v (opv_extract rfl rfl) rfl ?_
  refine L_v (opv_extract rfl rfl) rfl ?_
  refine L_v (opv_assign rfl) rfl ?_
  refine L_v (opv_assign rfl) rfl ?_
  refine L_nil ?_
  refine K_then ?_
  refine J_seq ?_
  refine J_seq ?_
  refine J_region ?_
  refine L_v (opv_move rfl) rfl ?_
  refine L_v ((opv_neq rfl rfl).bool_f (by decide)) rfl ?_
  refine L_v (opv_move rfl) rfl ?_
  refine L_gon rfl rfl rfl ?_
  refine L_v (opv_move rfl) rfl ?_
  refine L_gon rfl rfl rfl ?_
  refine L_v ((opv_lss rfl rfl).bool_f (by omega)) rfl ?_
  first
    | refine L_v (opv_pick_tt rfl rfl) rfl ?_
    | refine L_v (opv_pick_ff rfl rfl) rfl ?_
    | refine L_v (opv_pick rfl rfl rfl) rfl ?_
  refine L_nil ?_
  refine K_then ?_
  refine J_cond_false rfl ?_
  refine J_skip ?_
  refine K_then ?_
  refine J_seq ?_
  refine J_seq ?_
  refine J_region ?_
  refine L_v (opv_move rfl) rfl ?_
  refine L_v ((opv_gtr rfl rfl).bool_f (by omega)) rfl ?_
  refine L_nil ?_
  refine K_then ?_
  refine J_cond_false rfl ?_
  refine J_skip ?_
  refine K_then ?_
  refine J_seq ?_
  refine J_region ?_
  refine L_v (opv_assign rfl) rfl ?_
  refine L_nil ?_
  refine K_then ?_
  refine J_seq ?_
  refine J_block ?_
  refine J_loop (X := Nat × Nat) (fun y => [(0, .int .i64 (y.1 : Nat)), (1, .int .i64 (m : Nat)), (6, .int .i64 (roomN m : Nat)), (8, .int .i64 (y.2 : Nat))]) (fun y => (sep (emp) (F))) (fun y => y.1 ≤ l ∧ y.1 + y.2 ≤ l + 1 ∧ partsN l m + 1 = y.2 + partsN y.1 m) (fun y => y.1) ((l, 1)) ⟨Nat.le_refl _, Nat.le_refl _, by show partsN l m + 1 = 1 + partsN l m; omega⟩ ⟨rfl, rfl, rfl, rfl, trivial⟩ (Ent.refl _) (fun y hy => ?_)
  obtain ⟨h1, h2, h3⟩ := hy
  refine J_seq ?_
  refine J_seq ?_
  refine J_region ?_
  refine L_v (opv_move rfl) rfl ?_
  refine L_v (opv_move rfl) rfl ?_
  first
    | refine L_v (opv_sub64 rfl rfl (by omega)) rfl ?_
    | refine L_v (opv_sub rfl rfl) rfl ?_
  refine L_v (opv_gtr rfl rfl) rfl ?_
  refine L_nil ?_
  refine K_then ?_
  refine J_cond rfl (fun h1 => ?_) (fun h1 => ?_)
  · refine J_skip ?_
    refine K_then ?_
    refine J_block ?_
    refine J_seq ?_
    refine J_region ?_
    refine L_v (opv_move rfl) rfl ?_
    refine L_v (opv_move rfl) rfl ?_
    first
      | refine L_v (opv_sub64 rfl rfl (by omega)) rfl ?_
      | refine L_v (opv_sub rfl rfl) rfl ?_
    refine L_v (opv_assign rfl) rfl ?_
    refine L_nil ?_
    refine K_then ?_
    refine J_region ?_
    refine L_v (opv_move rfl) rfl ?_
    first
      | refine L_v (opv_add64 rfl rfl (by omega)) rfl ?_
      | refine L_v (opv_addS rfl rfl (by omega)) rfl ?_
      | refine L_v (opv_add rfl rfl) rfl ?_
    refine L_v (opv_assign rfl) rfl ?_
    refine L_nil ?_
    refine K_block ?_
    have hpm := partsN_more (l := y.1) (m := m) h.1 (by omega)
    exact K_loop ((y.1 - roomN m, y.2 + 1)) ⟨by show y.1 - roomN m ≤ l; omega, by show y.1 - roomN m + (y.2 + 1) ≤ l + 1; omega, by show _ = y.2 + 1 + partsN (y.1 - roomN m) m; omega⟩ (by show y.1 - roomN m < y.1; omega) ⟨by show some _ = _; refine congrArg some (congrArg (Value.int .i64) ?_); show (y.1 : Int) - (roomN m : Nat) = ((y.1 - roomN m : Nat) : Int); omega, rfl, rfl, rfl, trivial⟩ (Ent.refl _)
  · refine J_exit ?_
    refine K_then_exit ?_
    refine K_then_exit ?_
    refine K_block_here ?_
    refine K_then ?_
    refine J_seq ?_
    refine J_region ?_
    refine L_v (opv_move rfl) rfl ?_
    refine L_v (opv_assign rfl) rfl ?_
    refine L_v (opv_assign rfl) rfl ?_
    refine L_nil ?_
    refine K_then ?_
    refine J_ret ?_
    have h1p := partsN_one (l := y.1) (m := m) h.1 (by omega)
    exact K_ret2 rfl rfl rfl () trivial (by rw [show y.2 = partsN l m by omega]) (Ent.refl _)


theorem Count_any (l m : Int) : FSpec Try.prog 17 #[.int .i64 l, .int .i64 m] emp (fun _ : Unit => True) (fun _ => .tuple #[.int .i64 (cntN l m).1, .int .i64 (cntN l m).2]) (fun _ => emp) := by
  unfold cntN
  by_cases h : sizeB m
  · rw [if_neg (fun n => n h)]
    obtain ⟨k, rfl⟩ : ∃ k : Nat, m = k := ⟨m.toNat, by unfold sizeB at h; omega⟩
    have h' : 64 ≤ k ∧ k ≤ 1518 := by unfold sizeB at h; omega
    by_cases h1 : l < 0
    · rw [if_pos h1]; exact Count_neg l k h' h1
    · rw [if_neg h1]
      by_cases h2 : 65515 < l
      · rw [if_pos h2]; exact Count_long l k h' h2
      · rw [if_neg h2]
        obtain ⟨j, rfl⟩ : ∃ j : Nat, l = j := ⟨l.toNat, by omega⟩
        exact Count_ok j k h' (by omega)
  · rw [if_pos h]; exact Count_size l m h
theorem RCount_any (l m : Int) : FSpec Try.prog 18 #[.int .i64 l, .int .i64 m] emp (fun _ : Unit => True) (fun _ => .tuple #[.int .i64 (cntN l m).1, .int .i64 (cntN l m).2]) (fun _ => emp) := by
  unfold cntN
  by_cases h : sizeB m
  · rw [if_neg (fun n => n h)]
    obtain ⟨k, rfl⟩ : ∃ k : Nat, m = k := ⟨m.toNat, by unfold sizeB at h; omega⟩
    have h' : 64 ≤ k ∧ k ≤ 1518 := by unfold sizeB at h; omega
    by_cases h1 : l < 0
    · rw [if_pos h1]; exact RCount_neg l k h' h1
    · rw [if_neg h1]
      by_cases h2 : 65515 < l
      · rw [if_pos h2]; exact RCount_long l k h' h2
      · rw [if_neg h2]
        obtain ⟨j, rfl⟩ : ∃ j : Nat, l = j := ⟨l.toNat, by omega⟩
        exact RCount_ok j k h' (by omega)
  · rw [if_pos h]; exact RCount_size l m h
def rmN (m : Int) : Int × Int := if sizeB m then ((roomN m.toNat : Nat), 0) else (0, 1)
theorem Room_any (m : Int) : FSpec Try.prog 15 #[.int .i64 m] emp (fun _ : Unit => True) (fun _ => .tuple #[.int .i64 (rmN m).1, .int .i64 (rmN m).2]) (fun _ => emp) := by
  unfold rmN
  by_cases h : sizeB m
  · rw [if_pos h]
    obtain ⟨k, rfl⟩ : ∃ k : Nat, m = k := ⟨m.toNat, by unfold sizeB at h; omega⟩
    exact Room_ok k (by unfold sizeB at h; omega)
  · rw [if_neg h]; exact Room_bad m h
theorem RRoom_any (m : Int) : FSpec Try.prog 16 #[.int .i64 m] emp (fun _ : Unit => True) (fun _ => .tuple #[.int .i64 (rmN m).1, .int .i64 (rmN m).2]) (fun _ => emp) := by
  unfold rmN
  by_cases h : sizeB m
  · rw [if_pos h]
    obtain ⟨k, rfl⟩ : ∃ k : Nat, m = k := ⟨m.toNat, by unfold sizeB at h; omega⟩
    exact RRoom_ok k (by unfold sizeB at h; omega)
  · rw [if_neg h]; exact RRoom_bad m h

theorem Join_nil  : FSpec Try.prog 20 #[.slice none 0 0] (emp) (fun _ : Unit => True) (fun _ => .tuple #[.agg [.int .i64 0, .bool false, .int .i64 0, .int .i64 0, .int .i64 0, .int .u8 0, .int .u8 0, .int .u8 0, .int .u8 0, .int .u8 0, .int .u8 0, .int .u8 0, .int .u8 0, .string ⟨#[]⟩].toArray, .int .i64 23]) (fun _ => emp) := by
  refine FSpec.enter' Try.func20 rfl Try.ntmps20 rfl fun σ F => ?_
  refine J_emp ?_
  refine J_seq ?_
  refine J_region ?_
  refine L_x rfl (opx_alloc rfl) (fun b2 _ => ?_)
  refine L_v (opv_assign rfl) rfl ?_
  refine L_nil ?_
  refine K_then ?_
  refine J_seq ?_
  refine J_seq ?_
  refine J_region ?_
  refine L_v (opv_move rfl) rfl ?_
  first
    | refine L_v (opv_lenL rfl) rfl ?_
    | refine L_v (opv_lenS rfl) rfl ?_
  refine L_v ((opv_eql rfl rfl).bool_t rfl) rfl ?_
  refine L_nil ?_
  refine K_then ?_
  refine J_cond_true rfl ?_
  refine J_seq ?_
  refine J_region ?_
  refine L_v (opv_build rfl) rfl ?_
  refine L_x rfl (opx_store rfl rfl rfl (by simp [Value.oneCell'])) (fun _ _ => ?_)
  refine L_v (opv_assign rfl) rfl ?_
  refine L_nil ?_
  refine K_then ?_
  refine J_ret ?_
  refine K_then_ret ?_
  exact K_ret2c rfl rfl rfl rfl () trivial rfl Ent.take

theorem fawake_spec  : FSpec Try.prog 19 #[] (emp) (fun _ : Unit => True) (fun _ => .bool true) (fun _ => emp) := by
  refine FSpec.enter' Try.func19 rfl Try.ntmps19 rfl fun σ F => ?_
  refine J_seq ?_
  refine J_region ?_
  refine L_v (opv_assign rfl) rfl ?_
  refine L_nil ?_
  refine K_then ?_
  refine J_seq ?_
  refine J_region ?_
  refine L_x rfl (opx_call0 (Room_ok 64 (by decide)) rfl rfl rfl) (fun _ _ => ?_)
  refine L_emp ?_
  refine L_v (opv_move rfl) rfl ?_
  refine L_v (opv_extract rfl rfl) rfl ?_
  refine L_v (opv_extract rfl rfl) rfl ?_
  refine L_v (opv_assign rfl) rfl ?_
  refine L_v (opv_assign rfl) rfl ?_
  refine L_nil ?_
  refine K_then ?_
  refine J_seq ?_
  refine J_region ?_
  refine L_x rfl (opx_call0 (Count_ok 25 64 (by decide) (by decide)) rfl rfl rfl) (fun _ _ => ?_)
  refine L_emp ?_
  refine L_v (opv_move rfl) rfl ?_
  refine L_v (opv_extract rfl rfl) rfl ?_
  refine L_v (opv_extract rfl rfl) rfl ?_
  refine L_v (opv_assign rfl) rfl ?_
  refine L_v (opv_assign rfl) rfl ?_
  refine L_nil ?_
  refine K_then ?_
  refine J_seq ?_
  refine J_region ?_
  refine L_x rfl (opx_call0 (Count_ok 26 64 (by decide) (by decide)) rfl rfl rfl) (fun _ _ => ?_)
  refine L_emp ?_
  refine L_v (opv_move rfl) rfl ?_
  refine L_v (opv_extract rfl rfl) rfl ?_
  refine L_v (opv_extract rfl rfl) rfl ?_
  refine L_v (opv_assign rfl) rfl ?_
  refine L_v (opv_assign rfl) rfl ?_
  refine L_nil ?_
  refine K_then ?_
  refine J_seq ?_
  refine J_region ?_
  refine L_x rfl (opx_call0 (Join_nil) rfl rfl rfl) (fun _ _ => ?_)
  refine L_emp ?_
  refine L_v (opv_move rfl) rfl ?_
  refine L_v (opv_extract (v := .agg [.int .i64 0, .bool false, .int .i64 0, .int .i64 0, .int .i64 0, .int .u8 0, .int .u8 0, .int .u8 0, .int .u8 0, .int .u8 0, .int .u8 0, .int .u8 0, .int .u8 0, .string ⟨#[]⟩].toArray) rfl rfl) rfl ?_
  refine L_v (opv_extract rfl rfl) rfl ?_
  refine L_x rfl (opx_alloc rfl) (fun b7 _ => ?_)
  refine L_x rfl (opx_store rfl rfl rfl (by simp [Value.oneCell'])) (fun _ _ => ?_)
  refine L_v (opv_assign rfl) rfl ?_
  refine L_nil ?_
  refine K_then ?_
  refine J_seq ?_
  refine J_region ?_
  refine L_v (opv_move rfl) rfl ?_
  refine L_v ((opv_eql rfl rfl).bool_t rfl) rfl ?_
  refine L_v (opv_move rfl) rfl ?_
  refine L_gon rfl rfl rfl ?_
  refine L_v (opv_move rfl) rfl ?_
  refine L_gon rfl rfl rfl ?_
  refine L_v ((opv_eql rfl rfl).bool_t rfl) rfl ?_
  first
    | refine L_v (opv_pick_tt rfl rfl) rfl ?_
    | refine L_v (opv_pick_ff rfl rfl) rfl ?_
    | refine L_v (opv_pick rfl rfl rfl) rfl ?_
  refine L_v (opv_move rfl) rfl ?_
  refine L_gon rfl rfl rfl ?_
  refine L_v (opv_move rfl) rfl ?_
  refine L_gon rfl rfl rfl ?_
  refine L_v ((opv_eql rfl rfl).bool_t rfl) rfl ?_
  first
    | refine L_v (opv_pick_tt rfl rfl) rfl ?_
    | refine L_v (opv_pick_ff rfl rfl) rfl ?_
    | refine L_v (opv_pick rfl rfl rfl) rfl ?_
  refine L_v (opv_move rfl) rfl ?_
  refine L_gon rfl rfl rfl ?_
  refine L_v (opv_move rfl) rfl ?_
  refine L_gon rfl rfl rfl ?_
  refine L_v ((opv_eql rfl rfl).bool_t rfl) rfl ?_
  first
    | refine L_v (opv_pick_tt rfl rfl) rfl ?_
    | refine L_v (opv_pick_ff rfl rfl) rfl ?_
    | refine L_v (opv_pick rfl rfl rfl) rfl ?_
  refine L_v (opv_move rfl) rfl ?_
  refine L_gon rfl rfl rfl ?_
  refine L_v (opv_move rfl) rfl ?_
  refine L_gon rfl rfl rfl ?_
  refine L_v ((opv_eql rfl rfl).bool_t rfl) rfl ?_
  first
    | refine L_v (opv_pick_tt rfl rfl) rfl ?_
    | refine L_v (opv_pick_ff rfl rfl) rfl ?_
    | refine L_v (opv_pick rfl rfl rfl) rfl ?_
  refine L_v (opv_move rfl) rfl ?_
  refine L_gon rfl rfl rfl ?_
  refine L_v (opv_move rfl) rfl ?_
  refine L_gon rfl rfl rfl ?_
  refine L_v ((opv_eql rfl rfl).bool_t rfl) rfl ?_
  first
    | refine L_v (opv_pick_tt rfl rfl) rfl ?_
    | refine L_v (opv_pick_ff rfl rfl) rfl ?_
    | refine L_v (opv_pick rfl rfl rfl) rfl ?_
  refine L_v (opv_move rfl) rfl ?_
  refine L_gon rfl rfl rfl ?_
  refine L_v (opv_move rfl) rfl ?_
  refine L_gon rfl rfl rfl ?_
  refine L_v ((opv_eql rfl rfl).bool_t rfl) rfl ?_
  first
    | refine L_v (opv_pick_tt rfl rfl) rfl ?_
    | refine L_v (opv_pick_ff rfl rfl) rfl ?_
    | refine L_v (opv_pick rfl rfl rfl) rfl ?_
  refine L_v (opv_assign rfl) rfl ?_
  refine L_nil ?_
  refine K_then ?_
  refine J_ret ?_
  exact K_ret1 rfl rfl () trivial (rfl) Ent.take

attribute [local irreducible] roomN partsN cntN rmN
theorem FragCounts_law (W : World) (l m : Int) : FSpec Try.prog 3 #[.int .i64 l, .int .i64 m] (old W) (fun _ : Unit => True) (fun _ => .bool true) (fun _ => old W) := by
  refine FSpec.enter' Try.func3 rfl Try.ntmps3 rfl fun σ F => ?_
  refine J_seq ?_
  refine J_region ?_
  refine L_v (opv_assign rfl) rfl ?_
  refine L_nil ?_
  refine K_then ?_
  refine J_seq ?_
  refine J_region ?_
  refine L_v (opv_move rfl) rfl ?_
  refine L_x rfl (opx_call0 (Room_any m) rfl rfl rfl) (fun _ _ => ?_)
  refine L_emp ?_
  refine L_v (opv_move rfl) rfl ?_
  refine L_v (opv_extract rfl rfl) rfl ?_
  refine L_v (opv_extract rfl rfl) rfl ?_
  refine L_v (opv_assign rfl) rfl ?_
  refine L_v (opv_assign rfl) rfl ?_
  refine L_nil ?_
  refine K_then ?_
  refine J_seq ?_
  refine J_region ?_
  refine L_v (opv_move rfl) rfl ?_
  refine L_x rfl (opx_call0 (RRoom_any m) rfl rfl rfl) (fun _ _ => ?_)
  refine L_emp ?_
  refine L_v (opv_move rfl) rfl ?_
  refine L_v (opv_extract rfl rfl) rfl ?_
  refine L_v (opv_extract rfl rfl) rfl ?_
  refine L_v (opv_assign rfl) rfl ?_
  refine L_v (opv_assign rfl) rfl ?_
  refine L_nil ?_
  refine K_then ?_
  refine J_seq ?_
  refine J_region ?_
  refine L_v (opv_move rfl) rfl ?_
  refine L_v (opv_move rfl) rfl ?_
  refine L_x rfl (opx_call0 (Count_any l m) rfl rfl rfl) (fun _ _ => ?_)
  refine L_emp ?_
  refine L_v (opv_move rfl) rfl ?_
  refine L_v (opv_extract rfl rfl) rfl ?_
  refine L_v (opv_extract rfl rfl) rfl ?_
  refine L_v (opv_assign rfl) rfl ?_
  refine L_v (opv_assign rfl) rfl ?_
  refine L_nil ?_
  refine K_then ?_
  refine J_seq ?_
  refine J_region ?_
  refine L_v (opv_move rfl) rfl ?_
  refine L_v (opv_move rfl) rfl ?_
  refine L_x rfl (opx_call0 (RCount_any l m) rfl rfl rfl) (fun _ _ => ?_)
  refine L_emp ?_
  refine L_v (opv_move rfl) rfl ?_
  refine L_v (opv_extract rfl rfl) rfl ?_
  refine L_v (opv_extract rfl rfl) rfl ?_
  refine L_v (opv_assign rfl) rfl ?_
  refine L_v (opv_assign rfl) rfl ?_
  refine L_nil ?_
  refine K_then ?_
  refine J_seq ?_
  refine J_region ?_
  refine L_v (opv_move rfl) rfl ?_
  refine L_v (opv_move rfl) rfl ?_
  refine L_v ((opv_eql rfl rfl).bool_t rfl) rfl ?_
  refine L_v (opv_move rfl) rfl ?_
  refine L_gon rfl rfl rfl ?_
  refine L_v (opv_move rfl) rfl ?_
  refine L_gon rfl rfl rfl ?_
  refine L_v (opv_move rfl) rfl ?_
  refine L_gon rfl rfl rfl ?_
  refine L_v ((opv_eql rfl rfl).bool_t rfl) rfl ?_
  first
    | refine L_v (opv_pick_tt rfl rfl) rfl ?_
    | refine L_v (opv_pick_ff rfl rfl) rfl ?_
    | refine L_v (opv_pick rfl rfl rfl) rfl ?_
  refine L_v (opv_move rfl) rfl ?_
  refine L_gon rfl rfl rfl ?_
  refine L_v (opv_move rfl) rfl ?_
  refine L_gon rfl rfl rfl ?_
  refine L_v (opv_move rfl) rfl ?_
  refine L_gon rfl rfl rfl ?_
  refine L_v ((opv_eql rfl rfl).bool_t rfl) rfl ?_
  first
    | refine L_v (opv_pick_tt rfl rfl) rfl ?_
    | refine L_v (opv_pick_ff rfl rfl) rfl ?_
    | refine L_v (opv_pick rfl rfl rfl) rfl ?_
  refine L_v (opv_move rfl) rfl ?_
  refine L_gon rfl rfl rfl ?_
  refine L_v (opv_move rfl) rfl ?_
  refine L_gon rfl rfl rfl ?_
  refine L_v (opv_move rfl) rfl ?_
  refine L_gon rfl rfl rfl ?_
  refine L_v ((opv_eql rfl rfl).bool_t rfl) rfl ?_
  first
    | refine L_v (opv_pick_tt rfl rfl) rfl ?_
    | refine L_v (opv_pick_ff rfl rfl) rfl ?_
    | refine L_v (opv_pick rfl rfl rfl) rfl ?_
  refine L_v (opv_move rfl) rfl ?_
  refine L_gon rfl rfl rfl ?_
  refine L_x rfl (opx_call0 (fawake_spec) rfl rfl rfl) (fun _ _ => ?_)
  refine L_emp ?_
  first
    | refine L_v (opv_pick_tt rfl rfl) rfl ?_
    | refine L_v (opv_pick_ff rfl rfl) rfl ?_
    | refine L_v (opv_pick rfl rfl rfl) rfl ?_
  refine L_v (opv_assign rfl) rfl ?_
  refine L_nil ?_
  refine K_then ?_
  refine J_ret ?_
  exact K_ret1 rfl rfl () trivial (rfl) Ent.take

end Go.Proofs.Ytjpbpfihacfndaa
namespace Go.Proofs.Ytjpbpfihacfndaa.fragCounts
open Go.ChangeShapes Go.WideShapes Go.ChangeAt Go.RowKit Go.SLA
open Go.ChangeMaps (open_string shut_string)
set_option linter.unusedVariables false
theorem own : ownKnob Try.prog.godebug = none := by kernel_rfl
theorem laidOut : laidOutB Try.prog = true := by kernel_rfl
set_option maxRecDepth 100000 in
theorem lifted (os : Os) (started : os.Started) (H : Type) (enc : TypeId × Value → H) :
    ReturnsInHanded {} Try.checked os 3 .any (Rows.fragCountsSpec.pre6 enc Try.prog Try.f3 Rows.fragCountsRow.domain false) (Rows.fragCountsSpec.post enc Try.prog Try.f3 false true false false) := by
  refine returnsInHanded_of_change_sized (C := Try.checked) own started (by kernel_rfl) Try.func3
    (ChangeSpec.witness6 (enc := enc) (C := Try.checked) false ⟨#[], #[.int .i64 0, .int .i64 0], []⟩ 8 (by kernel_rfl) (by kernel_rfl) (by kernel_rfl) (by kernel_rfl)) ?_
  intro W base args ds gs before hval0 hW hcnd hsz0 _
  have hsz : (DataW.weightsEach Try.prog (Try.f3.params.toList ++ Rows.fragCountsSpec.plain.varTypes Try.prog) (ds ++ gs)).all (· ≤ reachBytes) = true := hsz0
  have hval : ∀ (j : Nat) t v, Try.f3.params[j]? = some t → args[j]? = some v → Value.okWide Try.prog W .any base t v := hval0
  have hW' := hW
  obtain ⟨p, q, hA0, hV, rfl, hfz, hnd⟩ := hW
  have hA : DataW.TrodAll enc Try.prog W 0 (fun _ => true) true Try.f3.params.toList args.toList ds p := hA0
  rw [Try.params3] at hA hval hsz
  obtain ⟨v0, vs0, d0, ds0, p0, q0, hargs, rfl, rfl, h0, r0⟩ := trodAll_cons hA
  obtain ⟨v1, vs1, d1, ds1, p1, q1, rfl, rfl, rfl, h1, r1⟩ := trodAll_cons r0
  obtain ⟨rfl, rfl, rfl⟩ := trodAll_nil r1
  obtain rfl : args = #[v0, v1] := by cases args; simp_all
  obtain ⟨rfl, rfl⟩ := trodVars_none hV
  have k0 := h0
  have lt0 : ∀ x ∈ p0, x.block < W.heap.size := by obtain ⟨m, hm⟩ := k0; exact DataW.trod_lt m _ _ _ hm
  obtain ⟨a0, rfl, rfl, rfl, w0⟩ := open_int Try.underlying3 (hval 0 3 v0 rfl rfl) h0
  have k1 := h1
  have lt1 : ∀ x ∈ p1, x.block < W.heap.size := by obtain ⟨m, hm⟩ := k1; exact DataW.trod_lt m _ _ _ hm
  obtain ⟨a1, rfl, rfl, rfl, w1⟩ := open_int Try.underlying3 (hval 1 3 v1 rfl rfl) h1
  clear hA0 hval0 hsz0 hsz
  refine (FSpec.law (FragCounts_law W a0 a1)).mono fun e W' ⟨he, bel⟩ => ?_
  subst he
  exact ⟨_, rfl, _, _, _, [], _, [], hW', trodAll_mk1 (shut_bool Try.underlying4 _), (trodAll_cons_mk (Below.trod laidOut (by kernel_rfl) (of_decide_eq_true (by kernel_rfl)) k0 bel lt0) (trodAll_cons_mk (Below.trod laidOut (by kernel_rfl) (of_decide_eq_true (by kernel_rfl)) k1 bel lt1) trodAll_mk0)), rfl, bel.frame _, fun h => by cases h⟩
theorem over : Rows.fragCountsRow.holds Try.pinned (OpenSpec.ofChange Rows.fragCountsSpec) :=
  OpenClaim.holds_of_wide 3 Try.f3 rfl rfl rfl rfl rfl rfl rfl ⟨rfl, rfl, rfl, rfl, rfl⟩ rfl rfl rfl rfl rfl (by kernel_rfl) Try.func3 (by kernel_rfl)
    (of_decide_eq_true (by kernel_rfl)) (by unfold Func.isWrapper; first | (rw [if_pos (by decide +kernel)]; kernel_rfl) | (rw [if_neg (by decide +kernel)]; exact ⟨rfl, rfl⟩))
    (fun os started H enc _ => lifted os started H enc)
end Go.Proofs.Ytjpbpfihacfndaa.fragCounts
namespace Go.Proofs.Ytjpbpfihacfndaa
theorem fragCounts_holds : Rows.FragCountsSaid := fragCounts.over
#print axioms fragCounts_holds
end Go.Proofs.Ytjpbpfihacfndaa
namespace Go.Proofs.Ytjpbpfihacfndaa
open Go.SLA
end Go.Proofs.Ytjpbpfihacfndaa
