/- Contracts of functions of the translation, each proved by a walk over its code; they are used by the texts that import this one. -/
import Derived.Test.YtdmlcnecildliaaBe
import Derived.Test.YtdmlcnecildliaaH
namespace Go.Proofs.Ytdmlcnecildliaa
open Go.SLA
set_option maxRecDepth 100000
set_option linter.unusedVariables false
set_option linter.unusedSimpArgs false
attribute [local irreducible] J L K QL Rg FSpec OpV OpX Rd Back

theorem WrP_new {p : Nat} {F : HProp} : Ent (sep (cel p [.slice none 0 0, .bool false] 42) (F)) (sep (WrP p (bytesL []) false) (F)) :=
  Ent.trans (Ent.frame_left (Ent.trans (Ent.of (emp_sep _).symm) ((Own.nil 5 1).frame F)) _) (WrP.fold (s := bytesL []) (none, 0))
theorem RdS.lit {S R : HProp} {α : Type} {en : α → List Value} {m b : Nat} {te : TypeId} {xs : List α} {cells : List Value} [h : Look S b cells te R] (hc : cells = xs.flatMap en) (hm : ∀ x, (en x).length = m) : RdS S en m (some (ad b 0)) xs := by
  subst hc
  refine ⟨fun _ _ => ⟨b, 0, rfl⟩, fun b' o' e i x j u hi hj => ?_⟩
  simp only [Option.some.injEq, Addr.mk.injEq] at e
  obtain ⟨rfl, rfl, _⟩ := e
  have hjm : j < m := by
    rcases Nat.lt_or_ge j (en x).length with h | h
    · rw [← hm x]; exact h
    · rw [List.getElem?_eq_none h] at hj; cases hj
  refine Rd.look (l := xs.flatMap en) ?_
  rw [Nat.zero_add, flat_get hm xs i j x hi hjm, hj]
theorem encZ_len (x : Int) : (encZ x).length = 1 := rfl

theorem WText_nil (t : ByteArray) : FSpec Try.prog 43 #[.pointer none, .string t] (emp) (fun _ : Unit => True) (fun _ => .tuple #[]) (fun _ => emp) := by
  refine FSpec.enter' Try.func43 rfl Try.ntmps43 rfl fun σ F => ?_
  refine J_seq ?_
  refine J_region ?_
  refine L_v (opv_move rfl) rfl ?_
  refine L_v (opv_neqNil rfl rfl) rfl ?_
  refine L_v (opv_move rfl) rfl ?_
  refine L_gskip rfl rfl rfl ?_ (fun _ h => by cases h; rfl)
  refine L_gskip rfl rfl rfl ?_ (fun _ h => by cases h; rfl)
  refine L_gskip rfl rfl rfl ?_ (fun _ h => by cases h; rfl)
  refine L_gskip rfl rfl rfl ?_ (fun _ h => by cases h; rfl)
  refine L_gskip rfl rfl rfl ?_ (fun _ h => by cases h; rfl)
  first
    | refine L_v (opv_pick_tt rfl rfl) rfl ?_
    | refine L_v (opv_pick_ff rfl rfl) rfl ?_
    | refine L_v (opv_pick rfl rfl rfl) rfl ?_
  refine L_nil ?_
  refine K_then ?_
  refine J_cond_false rfl ?_
  refine J_skip ?_
  exact K_end0 rfl () trivial rfl (Ent.refl _)

theorem WText_bad (p : Nat) (s t : ByteArray) : FSpec Try.prog 43 #[.pointer (some (ad p 0)), .string t] (WrP p s true) (fun _ : Unit => True) (fun _ => .tuple #[]) (fun _ => WrP p s true) := by
  refine FSpec.enter' Try.func43 rfl Try.ntmps43 rfl fun σ F => ?_
  refine J_ex fun x => ?_
  refine J_eq _ (sep_assoc _ _ _) ?_
  refine J_seq ?_
  refine J_region ?_
  refine L_v (opv_move rfl) rfl ?_
  first
    | refine L_v (opv_neq rfl rfl) rfl ?_
    | refine L_v (opv_neqS rfl rfl) rfl ?_
    | refine L_v (opv_neqNil rfl rfl) rfl ?_
    | refine L_v (opv_neqB rfl rfl) rfl ?_
  refine L_v (opv_move rfl) rfl ?_
  refine L_gon rfl rfl rfl ?_
  refine L_v (opv_move rfl) rfl ?_
  refine L_gon rfl rfl rfl ?_
  refine L_v (opv_nilCheck rfl) rfl ?_
  refine L_gon rfl rfl rfl ?_
  first
    | refine L_v (opv_fieldAddr0 rfl) rfl ?_
    | refine L_v (opv_fieldAddr rfl) rfl ?_
  refine L_gon rfl rfl rfl ?_
  refine L_v (opv_load rfl (Rd.look rfl)) rfl ?_
  refine L_gon rfl rfl rfl ?_
  refine L_v (opv_not rfl) rfl ?_
  first
    | refine L_v (opv_pick_tt rfl rfl) rfl ?_
    | refine L_v (opv_pick_ff rfl rfl) rfl ?_
    | refine L_v (opv_pick rfl rfl rfl) rfl ?_
  refine L_nil ?_
  refine K_then ?_
  refine J_cond_false rfl ?_
  refine J_skip ?_
  exact K_end0 rfl () trivial rfl (WrP.fold x)

theorem WText_ok (p : Nat) (s t : ByteArray) (hs : s.size ≤ 1099511627776) (ht : t.size ≤ 1099511627776) : FSpec Try.prog 43 #[.pointer (some (ad p 0)), .string t] (WrP p s false) (fun _ : Unit => True) (fun _ => .tuple #[]) (fun _ => WrP p (s ++ t) false) := by
  refine FSpec.enter' Try.func43 rfl Try.ntmps43 rfl fun σ F => ?_
  refine J_ex fun x => ?_
  refine J_eq _ (sep_assoc _ _ _) ?_
  refine J_seq ?_
  refine J_region ?_
  refine L_v (opv_move rfl) rfl ?_
  first
    | refine L_v (opv_neq rfl rfl) rfl ?_
    | refine L_v (opv_neqS rfl rfl) rfl ?_
    | refine L_v (opv_neqNil rfl rfl) rfl ?_
    | refine L_v (opv_neqB rfl rfl) rfl ?_
  refine L_v (opv_move rfl) rfl ?_
  refine L_gon rfl rfl rfl ?_
  refine L_v (opv_move rfl) rfl ?_
  refine L_gon rfl rfl rfl ?_
  refine L_v (opv_nilCheck rfl) rfl ?_
  refine L_gon rfl rfl rfl ?_
  first
    | refine L_v (opv_fieldAddr0 rfl) rfl ?_
    | refine L_v (opv_fieldAddr rfl) rfl ?_
  refine L_gon rfl rfl rfl ?_
  refine L_v (opv_load rfl (Rd.look rfl)) rfl ?_
  refine L_gon rfl rfl rfl ?_
  refine L_v (opv_not rfl) rfl ?_
  first
    | refine L_v (opv_pick_tt rfl rfl) rfl ?_
    | refine L_v (opv_pick_ff rfl rfl) rfl ?_
    | refine L_v (opv_pick rfl rfl rfl) rfl ?_
  refine L_nil ?_
  refine K_then ?_
  refine J_cond_true rfl ?_
  refine J_region ?_
  refine L_v (opv_move rfl) rfl ?_
  refine L_v (opv_move rfl) rfl ?_
  refine L_v (opv_nilCheck rfl) rfl ?_
  first
    | refine L_v (opv_fieldAddr0 rfl) rfl ?_
    | refine L_v (opv_fieldAddr rfl) rfl ?_
  refine L_v (opv_load rfl (Rd.look rfl)) rfl ?_
  refine L_v (opv_move rfl) rfl ?_
  refine L_x rfl (opx_appendS rfl rfl rfl (by unfold maxLen; omega) (by omega) rfl) (fun y19 _ => ?_)
  refine L_v (opv_nilCheck rfl) rfl ?_
  first
    | refine L_v (opv_fieldAddr0 rfl) rfl ?_
    | refine L_v (opv_fieldAddr rfl) rfl ?_
  refine L_x rfl (opx_store rfl rfl rfl (by simp [Value.oneCell'])) (fun _ _ => ?_)
  refine L_nil ?_
  rw [← bts_append, ← ByteArray.size_append]
  exact K_end0 rfl () trivial rfl (Ent.trans Ent.take (WrP.fold y19))

theorem WText_big (p : Nat) (s t : ByteArray) (hs : s.size ≤ 4096) (ht : t.size ≤ 140737488351232) : FSpec Try.prog 43 #[.pointer (some (ad p 0)), .string t] (WrP p s false) (fun _ : Unit => True) (fun _ => .tuple #[]) (fun _ => WrP p (s ++ t) false) := by
  refine FSpec.enter' Try.func43 rfl Try.ntmps43 rfl fun σ F => ?_
  refine J_ex fun x => ?_
  refine J_eq _ (sep_assoc _ _ _) ?_
  refine J_seq ?_
  refine J_region ?_
  refine L_v (opv_move rfl) rfl ?_
  first
    | refine L_v (opv_neq rfl rfl) rfl ?_
    | refine L_v (opv_neqS rfl rfl) rfl ?_
    | refine L_v (opv_neqNil rfl rfl) rfl ?_
    | refine L_v (opv_neqB rfl rfl) rfl ?_
  refine L_v (opv_move rfl) rfl ?_
  refine L_gon rfl rfl rfl ?_
  refine L_v (opv_move rfl) rfl ?_
  refine L_gon rfl rfl rfl ?_
  refine L_v (opv_nilCheck rfl) rfl ?_
  refine L_gon rfl rfl rfl ?_
  first
    | refine L_v (opv_fieldAddr0 rfl) rfl ?_
    | refine L_v (opv_fieldAddr rfl) rfl ?_
  refine L_gon rfl rfl rfl ?_
  refine L_v (opv_load rfl (Rd.look rfl)) rfl ?_
  refine L_gon rfl rfl rfl ?_
  refine L_v (opv_not rfl) rfl ?_
  first
    | refine L_v (opv_pick_tt rfl rfl) rfl ?_
    | refine L_v (opv_pick_ff rfl rfl) rfl ?_
    | refine L_v (opv_pick rfl rfl rfl) rfl ?_
  refine L_nil ?_
  refine K_then ?_
  refine J_cond_true rfl ?_
  refine J_region ?_
  refine L_v (opv_move rfl) rfl ?_
  refine L_v (opv_move rfl) rfl ?_
  refine L_v (opv_nilCheck rfl) rfl ?_
  first
    | refine L_v (opv_fieldAddr0 rfl) rfl ?_
    | refine L_v (opv_fieldAddr rfl) rfl ?_
  refine L_v (opv_load rfl (Rd.look rfl)) rfl ?_
  refine L_v (opv_move rfl) rfl ?_
  refine L_x rfl (opx_appendS rfl rfl rfl (by unfold maxLen; omega) (by omega) rfl) (fun y19 _ => ?_)
  refine L_v (opv_nilCheck rfl) rfl ?_
  first
    | refine L_v (opv_fieldAddr0 rfl) rfl ?_
    | refine L_v (opv_fieldAddr rfl) rfl ?_
  refine L_x rfl (opx_store rfl rfl rfl (by simp [Value.oneCell'])) (fun _ _ => ?_)
  refine L_nil ?_
  rw [← bts_append, ← ByteArray.size_append]
  exact K_end0 rfl () trivial rfl (Ent.trans Ent.take (WrP.fold y19))

theorem RNum_spec (m c : Nat) (hm : m ≤ 9223372036854775807) (hc : c ≤ 1000000) : FSpec Try.prog 46 #[.int .i64 m, .int .i64 c] (emp) (fun _ : Unit => True) (fun _ => .string (be m c)) (fun _ => emp) := by
  refine FSpec.enter' Try.func46 rfl Try.ntmps46 rfl fun σ F => ?_
  refine J_seq ?_
  refine J_region ?_
  refine L_v (opv_assign rfl) rfl ?_
  refine L_nil ?_
  refine K_then ?_
  refine J_seq ?_
  refine J_region ?_
  refine L_v (opv_assign rfl) rfl ?_
  refine L_nil ?_
  refine K_then ?_
  refine J_seq ?_
  refine J_seq ?_
  refine J_region ?_
  refine L_v (opv_assign rfl) rfl ?_
  refine L_nil ?_
  refine K_then ?_
  refine J_block ?_
  refine J_loop (X := Nat × Nat) (fun y => [(0, .int .i64 y.2), (1, .int .i64 c), (5, .string (be m y.1)), (6, .int .i64 y.1)]) (fun y => (sep (emp) (F))) (fun y => y.1 ≤ c ∧ y.2 = m / 256 ^ y.1 ∧ y.2 ≤ m) (fun y => c - y.1) ((0, m)) ⟨Nat.zero_le _, by show m = m / 1; omega, Nat.le_refl _⟩ ⟨rfl, rfl, rfl, rfl, trivial⟩ (Ent.refl _) (fun y hy => ?_)
  obtain ⟨hk, hq, hmk⟩ := hy
  have hbs := be_size m y.1
  refine J_seq ?_
  refine J_seq ?_
  refine J_region ?_
  refine L_v (opv_move rfl) rfl ?_
  refine L_v (opv_move rfl) rfl ?_
  refine L_v (opv_lss rfl rfl) rfl ?_
  refine L_nil ?_
  refine K_then ?_
  refine J_cond rfl (fun h1 => ?_) (fun h1 => ?_)
  · refine J_skip ?_
    refine K_then ?_
    refine J_seq ?_
    refine J_block ?_
    refine J_seq ?_
    refine J_region ?_
    refine L_v (opv_move rfl) rfl ?_
    refine L_v ((opv_remP rfl rfl (by omega)).as (v' := .int .i64 ((y.2 % 256 : Nat) : Int)) rfl) rfl ?_
    first
      | refine L_v (opv_convW rfl (Go.IntWalk.u8_in _ (by omega))) rfl ?_
      | refine L_v (opv_convert rfl) rfl ?_
    refine L_x rfl (opx_buildSlice1 (m := 1) rfl rfl (by omega) (by omega) rfl) (fun b15 _ => ?_)
    refine L_v (opv_b2sL ([((y.2 % 256 : Nat) : Int)]) rfl rfl rfl (by simp; try omega)) rfl ?_
    refine L_v (opv_move rfl) rfl ?_
    refine L_v ((opv_addS rfl rfl (by rw [bytesL_size]; show 1 + (be m y.1).size ≤ _; omega)).as (v' := .string (be m (y.1 + 1))) (by rw [hq]; rfl)) rfl ?_
    refine L_v (opv_assign rfl) rfl ?_
    refine L_nil ?_
    refine K_then ?_
    refine J_region ?_
    refine L_v (opv_move rfl) rfl ?_
    refine L_v ((opv_quoP rfl rfl (by omega)).as (v' := .int .i64 ((y.2 / 256 : Nat) : Int)) rfl) rfl ?_
    refine L_v (opv_assign rfl) rfl ?_
    refine L_nil ?_
    refine K_block ?_
    refine K_then ?_
    refine J_region ?_
    refine L_v (opv_move rfl) rfl ?_
    first
      | refine L_v (opv_add64 rfl rfl (by omega)) rfl ?_
      | refine L_v (opv_addS rfl rfl (by omega)) rfl ?_
      | refine L_v (opv_add rfl rfl) rfl ?_
    refine L_v (opv_assign rfl) rfl ?_
    refine L_nil ?_
    exact K_loop ((y.1 + 1, y.2 / 256)) ⟨by show y.1 + 1 ≤ _; omega, by show y.2 / 256 = m / 256 ^ (y.1 + 1); rw [hq, Nat.pow_succ, Nat.div_div_eq_div_mul], by show y.2 / 256 ≤ m; omega⟩ (by show c - (y.1 + 1) < _; omega) ⟨rfl, rfl, rfl, rfl, trivial⟩ Ent.take
  · refine J_exit ?_
    refine K_then_exit ?_
    refine K_then_exit ?_
    refine K_block_here ?_
    refine K_then ?_
    refine J_seq ?_
    refine J_region ?_
    refine L_v (opv_move rfl) rfl ?_
    refine L_v (opv_assign rfl) rfl ?_
    refine L_nil ?_
    refine K_then ?_
    refine J_ret ?_
    have he : y.1 = c := by omega
    exact K_ret1 rfl rfl () trivial ((by rw [he])) Ent.take


theorem ones_le (s : ByteArray) : ones s ≤ 65535 := Nat.sub_le _ _
theorem putS_fit {s : ByteArray} {m : Int} {k c : Nat} (hm : m = k) (h : k / 2 ^ (8 * c) = 0) (hc : c ≤ 4) : putS s false m c = (s ++ be k c, false) := by
  subst hm
  have e : fitB (k : Int) (8 * c) := by
    refine ⟨by omega, ?_⟩
    rw [Int.toNat_natCast, Nat.min_eq_left (by omega)]
    have e2 : (2 : Int) ^ (8 * c) = ((2 ^ (8 * c) : Nat) : Int) := by rw [Int.natCast_pow]; rfl
    rw [e2, ← Int.natCast_ediv, h]
    rfl
  unfold putS
  rw [if_neg (by decide), if_pos e]
  rfl
theorem U16_ok (p : Nat) (s : ByteArray) (k : Nat) (hk : k ≤ 65535) (hs : s.size ≤ 1099511627776) : FSpec Try.prog 41 #[.pointer (some (ad p 0)), .int .i64 k] (WrP p s false) (fun _ : Unit => True) (fun _ => .tuple #[]) (fun _ => WrP p (s ++ be k 2) false) := by
  have := U16_spec p s false k (by omega) hs
  rwa [putS_fit rfl (by show k / 65536 = 0; omega) (by decide)] at this
theorem nil_app (s : ByteArray) : bytesL [] ++ s = s := by
  show ByteArray.empty ++ s = s
  simp
theorem fit16 {m : Int} : fitB m (8 * 2) ↔ 0 ≤ m ∧ m ≤ 65535 := by
  show (0 ≤ m ∧ m / 65536 = 0) ↔ _
  omega
theorem U16_n (p : Nat) (s : ByteArray) (m : Int) (hk : 0 ≤ m ∧ m ≤ 65535) (hs : s.size ≤ 1099511627776) : FSpec Try.prog 41 #[.pointer (some (ad p 0)), .int .i64 m] (WrP p s false) (fun _ : Unit => True) (fun _ => .tuple #[]) (fun _ => WrP p (s ++ be m.toNat 2) false) := by
  obtain ⟨k, rfl⟩ : ∃ k : Nat, m = k := ⟨m.toNat, by omega⟩
  exact U16_ok p s k (by omega) hs
theorem putS_size (s : ByteArray) (bad : Bool) (m : Int) (c : Nat) : (putS s bad m c).1.size ≤ s.size + c := by
  unfold putS
  split
  · dsimp only; omega
  · split
    · rw [ByteArray.size_append, be_size]; omega
    · dsimp only; omega

end Go.Proofs.Ytdmlcnecildliaa
