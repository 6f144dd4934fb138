/- Contracts of Parse and Print of the program and of the document, each proved by a walk over its code; they are used by the texts that import this one. -/
import Derived.Test.YtkkoepnljofhpaaDoorAs
import Derived.Test.YtkkoepnljofhpaaDoorAj
import Derived.Test.YtkkoepnljofhpaaDoorH
namespace Go.Proofs.YtkkoepnljofhpaaDoor
open Go.SLA
set_option maxRecDepth 100000
set_option linter.unusedVariables false
set_option linter.unusedSimpArgs false
attribute [local irreducible] J L K QL Rg FSpec OpV OpX Rd Back

def rdig (c : Nat) : Int := if 48 ≤ c ∧ c ≤ 57 then ((c - 48 : Nat) : Int) else if 97 ≤ c ∧ c ≤ 102 then ((c - 97 + 10 : Nat) : Int) else -1
theorem rdig_dig {n : Nat} (h : n < 16) : rdig (dig n) = (n : Int) := by
  have key : ∀ n : Fin 16, rdig (dig n.1) = ((n.1 : Nat) : Int) := by decide +kernel
  exact key ⟨n, h⟩
theorem rdig_yes {c : Nat} (h : 0 ≤ rdig c) (hc : c < 256) : ∃ n : Nat, n < 16 ∧ c = dig n ∧ rdig c = (n : Int) := by
  have key : ∀ c : Fin 256, 0 ≤ rdig c.1 → ∃ n : Fin 16, c.1 = dig n.1 ∧ rdig c.1 = ((n.1 : Nat) : Int) := by decide +kernel
  obtain ⟨n, h1, h2⟩ := key ⟨c, hc⟩ h
  exact ⟨n.1, n.2, h1, h2⟩
def hexS : ByteArray := ⟨#[48, 49, 50, 51, 52, 53, 54, 55, 56, 57, 97, 98, 99, 100, 101, 102]⟩
theorem hex_ext {n : Nat} (h : n < 16) : hexS.extract n (n + 1) = bytesL [byt digS n] := by
  have key : ∀ n : Fin 16, hexS.extract n.1 (n.1 + 1) = bytesL [byt digS n.1] := by decide +kernel
  exact key ⟨n, h⟩
theorem printB_snoc {l : List Nat} {w : Nat} (h : l ≠ []) : printB (l ++ [w]) = (printB l ++ colon) ++ pr2 w := by
  cases l with
  | nil => exact absurd rfl h
  | cons v r =>
    show joinB (pr2 v) ((r ++ [w]).map pr2) = (joinB (pr2 v) (r.map pr2) ++ colon) ++ pr2 w
    rw [List.map_append]
    exact joinB_snoc _ _ _
theorem printB_size : ∀ {l : List Nat}, (printB l).size ≤ 3 * l.length + 2
  | [] => by show (ByteArray.empty).size ≤ _; simp
  | v :: r => by
    show (joinB (pr2 v) (r.map pr2)).size ≤ _
    rw [joinB_size _ _ (fun s hs => by obtain ⟨x, _, rfl⟩ := List.mem_map.1 hs; exact pr2_size x), pr2_size, List.length_map, List.length_cons]
    omega

theorem digit_spec (c : Nat) (hc : c < 256) : FSpec Tryd.prog 48 #[.int .u8 (c : Nat)] (emp) (fun _ : Unit => True) (fun _ => .int .i64 (rdig c)) (fun _ => emp) := by
  refine FSpec.enter' Tryd.func48 rfl Tryd.ntmps48 rfl fun σ F => ?_
  refine J_seq ?_
  refine J_region ?_
  refine L_v (opv_assign rfl) rfl ?_
  refine L_nil ?_
  refine K_then ?_
  refine J_seq ?_
  refine J_seq ?_
  refine J_region ?_
  refine L_v (opv_move rfl) rfl ?_
  refine L_v (opv_geq rfl rfl) rfl ?_
  refine L_v (opv_move rfl) rfl ?_
  refine L_gt rfl rfl (fun h1 => ?_) (fun h1 => ?_) (fun _ h => by cases h; rfl)
  · refine L_v (opv_move rfl) rfl ?_
    refine L_gt_on h1 rfl rfl ?_
    refine L_v (opv_leq rfl rfl) rfl ?_
    refine L_v (opv_pick_t rfl h1 rfl) rfl ?_
    refine L_nil ?_
    refine K_then ?_
    refine J_cond rfl (fun h2 => ?_) (fun h2 => ?_)
    · refine J_seq ?_
      refine J_region ?_
      refine L_v (opv_move rfl) rfl ?_
      refine L_v ((opv_subW rfl rfl (Go.IntWalk.u8_in _ (by omega))).as (v' := .int .u8 ((c - 48 : Nat) : Int)) (congrArg _ (by omega))) rfl ?_
      first
        | refine L_v (opv_convW rfl (Go.IntWalk.i64_in _ (by omega))) rfl ?_
        | refine L_v (opv_convert rfl) rfl ?_
      refine L_v (opv_assign rfl) rfl ?_
      refine L_nil ?_
      refine K_then ?_
      refine J_ret ?_
      refine K_then_ret ?_
      exact K_ret1 rfl rfl () trivial ((congrArg _ (by unfold rdig; split <;> (try split) <;> omega))) (Ent.refl _)
    · refine J_skip ?_
      refine K_then ?_
      refine J_seq ?_
      refine J_seq ?_
      refine J_region ?_
      refine L_v (opv_move rfl) rfl ?_
      refine L_v (opv_geq rfl rfl) rfl ?_
      refine L_v (opv_move rfl) rfl ?_
      refine L_gt rfl rfl (fun h3 => ?_) (fun h3 => ?_) (fun _ h => by cases h; rfl)
      · refine L_v (opv_move rfl) rfl ?_
        refine L_gt_on h3 rfl rfl ?_
        refine L_v (opv_leq rfl rfl) rfl ?_
        refine L_v (opv_pick_t rfl h3 rfl) rfl ?_
        refine L_nil ?_
        refine K_then ?_
        refine J_cond rfl (fun h4 => ?_) (fun h4 => ?_)
        · refine J_seq ?_
          refine J_region ?_
          refine L_v (opv_move rfl) rfl ?_
          refine L_v ((opv_subW rfl rfl (Go.IntWalk.u8_in _ (by omega))).as (v' := .int .u8 ((c - 97 : Nat) : Int)) (congrArg _ (by omega))) rfl ?_
          first
            | refine L_v (opv_convW rfl (Go.IntWalk.i64_in _ (by omega))) rfl ?_
            | refine L_v (opv_convert rfl) rfl ?_
          refine L_v ((opv_add64 rfl rfl (by omega)).as (v' := .int .i64 ((c - 97 + 10 : Nat) : Int)) (congrArg _ (by omega))) rfl ?_
          refine L_v (opv_assign rfl) rfl ?_
          refine L_nil ?_
          refine K_then ?_
          refine J_ret ?_
          refine K_then_ret ?_
          exact K_ret1 rfl rfl () trivial ((congrArg _ (by unfold rdig; split <;> (try split) <;> omega))) (Ent.refl _)
        · refine J_skip ?_
          refine K_then ?_
          refine J_seq ?_
          refine J_region ?_
          refine L_v (opv_assign rfl) rfl ?_
          refine L_nil ?_
          refine K_then ?_
          refine J_ret ?_
          exact K_ret1 rfl rfl () trivial ((congrArg _ (by unfold rdig; split <;> (try split) <;> omega))) (Ent.refl _)
      · refine L_gt_off h3 rfl rfl ?_ (fun _ h => by cases h; rfl)
        refine L_v (opv_pick_f rfl h3 rfl) rfl ?_
        refine L_nil ?_
        refine K_then ?_
        refine J_cond_false rfl ?_
        refine J_skip ?_
        refine K_then ?_
        refine J_seq ?_
        refine J_region ?_
        refine L_v (opv_assign rfl) rfl ?_
        refine L_nil ?_
        refine K_then ?_
        refine J_ret ?_
        exact K_ret1 rfl rfl () trivial ((congrArg _ (by unfold rdig; split <;> (try split) <;> omega))) (Ent.refl _)
  · refine L_gt_off h1 rfl rfl ?_ (fun _ h => by cases h; rfl)
    refine L_v (opv_pick_f rfl h1 rfl) rfl ?_
    refine L_nil ?_
    refine K_then ?_
    refine J_cond_false rfl ?_
    refine J_skip ?_
    refine K_then ?_
    refine J_seq ?_
    refine J_seq ?_
    refine J_region ?_
    refine L_v (opv_move rfl) rfl ?_
    refine L_v (opv_geq rfl rfl) rfl ?_
    refine L_v (opv_move rfl) rfl ?_
    refine L_gt rfl rfl (fun h5 => ?_) (fun h5 => ?_) (fun _ h => by cases h; rfl)
    · refine L_v (opv_move rfl) rfl ?_
      refine L_gt_on h5 rfl rfl ?_
      refine L_v (opv_leq rfl rfl) rfl ?_
      refine L_v (opv_pick_t rfl h5 rfl) rfl ?_
      refine L_nil ?_
      refine K_then ?_
      refine J_cond rfl (fun h6 => ?_) (fun h6 => ?_)
      · refine J_seq ?_
        refine J_region ?_
        refine L_v (opv_move rfl) rfl ?_
        refine L_v ((opv_subW rfl rfl (Go.IntWalk.u8_in _ (by omega))).as (v' := .int .u8 ((c - 97 : Nat) : Int)) (congrArg _ (by omega))) rfl ?_
        first
          | refine L_v (opv_convW rfl (Go.IntWalk.i64_in _ (by omega))) rfl ?_
          | refine L_v (opv_convert rfl) rfl ?_
        refine L_v ((opv_add64 rfl rfl (by omega)).as (v' := .int .i64 ((c - 97 + 10 : Nat) : Int)) (congrArg _ (by omega))) rfl ?_
        refine L_v (opv_assign rfl) rfl ?_
        refine L_nil ?_
        refine K_then ?_
        refine J_ret ?_
        refine K_then_ret ?_
        exact K_ret1 rfl rfl () trivial ((congrArg _ (by unfold rdig; split <;> (try split) <;> omega))) (Ent.refl _)
      · refine J_skip ?_
        refine K_then ?_
        refine J_seq ?_
        refine J_region ?_
        refine L_v (opv_assign rfl) rfl ?_
        refine L_nil ?_
        refine K_then ?_
        refine J_ret ?_
        exact K_ret1 rfl rfl () trivial ((congrArg _ (by unfold rdig; split <;> (try split) <;> omega))) (Ent.refl _)
    · refine L_gt_off h5 rfl rfl ?_ (fun _ h => by cases h; rfl)
      refine L_v (opv_pick_f rfl h5 rfl) rfl ?_
      refine L_nil ?_
      refine K_then ?_
      refine J_cond_false rfl ?_
      refine J_skip ?_
      refine K_then ?_
      refine J_seq ?_
      refine J_region ?_
      refine L_v (opv_assign rfl) rfl ?_
      refine L_nil ?_
      refine K_then ?_
      refine J_ret ?_
      exact K_ret1 rfl rfl () trivial ((congrArg _ (by unfold rdig; split <;> (try split) <;> omega))) (Ent.refl _)

theorem RPrint_spec (ms : List Nat) (hb : Bys 6 ms) : FSpec Tryd.prog 38 #[.string (tx ms)] (emp) (fun _ : Unit => True) (fun _ => .string (printB ms)) (fun _ => emp) := by
  refine FSpec.enter' Tryd.func38 rfl Tryd.ntmps38 rfl fun σ F => ?_
  refine J_emp ?_
  refine J_seq ?_
  refine J_region ?_
  refine L_v (opv_assign rfl) rfl ?_
  refine L_nil ?_
  refine K_then ?_
  refine J_seq ?_
  refine J_region ?_
  refine L_v (opv_assign rfl) rfl ?_
  refine L_nil ?_
  refine K_then ?_
  refine J_seq ?_
  refine J_seq ?_
  refine J_region ?_
  refine L_v (opv_assign rfl) rfl ?_
  refine L_nil ?_
  refine K_then ?_
  refine J_block ?_
  refine J_loop (X := Nat) (fun i => [(0, .string (tx ms)), (3, .string (printB (ms.take i))), (4, .int .i64 i)]) (fun i => F) (fun i => i ≤ 6) (fun i => 6 - i) (0) (by decide) ⟨rfl, rfl, rfl, trivial⟩ (Ent.refl _) (fun i hi => ?_)
  refine J_seq ?_
  refine J_seq ?_
  refine J_region ?_
  refine L_v (opv_move rfl) rfl ?_
  refine L_v (opv_lss rfl rfl) rfl ?_
  refine L_nil ?_
  refine K_then ?_
  refine J_cond rfl (fun h1 => ?_) (fun h1 => ?_)
  · obtain ⟨w, hx, hm⟩ := get_lt (l := ms) (i := i) (by rw [hb.1]; omega)
    have hw := hb.2 w hm
    have hps := printB_size (l := ms.take i)
    rw [List.length_take, hb.1] at hps
    have hc1 : colon.size = 1 := rfl
    refine J_skip ?_
    refine K_then ?_
    refine J_seq ?_
    refine J_block ?_
    refine J_seq ?_
    refine J_seq ?_
    refine J_region ?_
    refine L_v (opv_move rfl) rfl ?_
    refine L_v (opv_gtr rfl rfl) rfl ?_
    refine L_nil ?_
    refine K_then ?_
    refine J_cond rfl (fun h2 => ?_) (fun h2 => ?_)
    · refine J_region ?_
      refine L_v (opv_move rfl) rfl ?_
      refine L_v ((opv_addS rfl rfl (by show (printB (ms.take i)).size + 1 ≤ _; omega)).as (v' := .string (printB (ms.take i) ++ colon)) rfl) rfl ?_
      refine L_v (opv_assign rfl) rfl ?_
      refine L_nil ?_
      refine K_then ?_
      refine J_quiet Tryd.mixed (by kernel_rfl) ?_
      refine Q_v (opv_move rfl) rfl ?_
      refine Q_v (opv_move rfl) rfl ?_
      refine Q_v (opv_move rfl) rfl ?_
      refine Q_v ((opv_indexS rfl rfl (by rw [tx_size, hb.1]; omega)).as (v' := .int .u8 ((w : Nat) : Int)) (congrArg _ (byt_tx hx hw))) rfl ?_
      refine Q_v ((opv_quo rfl rfl (by decide)).as (q16 hw)) rfl ?_
      refine Q_v (opv_move rfl) rfl ?_
      refine Q_v (opv_move rfl) rfl ?_
      refine Q_v ((opv_indexS rfl rfl (by rw [tx_size, hb.1]; omega)).as (v' := .int .u8 ((w : Nat) : Int)) (congrArg _ (byt_tx hx hw))) rfl ?_
      refine Q_v ((opv_quo rfl rfl (by decide)).as (q16 hw)) rfl ?_
      refine Q_v ((opv_addW rfl rfl (Go.IntWalk.u8_in _ (by omega))).as (v' := .int .u8 ((w / 16 + 1 : Nat) : Int)) rfl) rfl ?_
      refine Q_v ((opv_sliceS rfl rfl rfl (by show 0 ≤ _ ∧ _ ∧ _ ≤ ((16 : Nat) : Int); omega)).as (v' := .string (bytesL [byt digS (w / 16)])) (congrArg _ (hex_ext (n := w / 16) (by omega)))) rfl ?_
      refine Q_v ((opv_addS rfl rfl (by simp only [ByteArray.size_append, bytesL_size, List.length_singleton]; omega))) rfl ?_
      refine Q_v (opv_move rfl) rfl ?_
      refine Q_v (opv_move rfl) rfl ?_
      refine Q_v ((opv_indexS rfl rfl (by rw [tx_size, hb.1]; omega)).as (v' := .int .u8 ((w : Nat) : Int)) (congrArg _ (byt_tx hx hw))) rfl ?_
      refine Q_v ((opv_remP rfl rfl (by omega)).as (v' := .int .u8 ((w % 16 : Nat) : Int)) rfl) rfl ?_
      refine Q_v (opv_move rfl) rfl ?_
      refine Q_v (opv_move rfl) rfl ?_
      refine Q_v ((opv_indexS rfl rfl (by rw [tx_size, hb.1]; omega)).as (v' := .int .u8 ((w : Nat) : Int)) (congrArg _ (byt_tx hx hw))) rfl ?_
      refine Q_v ((opv_remP rfl rfl (by omega)).as (v' := .int .u8 ((w % 16 : Nat) : Int)) rfl) rfl ?_
      refine Q_v ((opv_addW rfl rfl (Go.IntWalk.u8_in _ (by omega))).as (v' := .int .u8 ((w % 16 + 1 : Nat) : Int)) rfl) rfl ?_
      refine Q_v ((opv_sliceS rfl rfl rfl (by show 0 ≤ _ ∧ _ ∧ _ ≤ ((16 : Nat) : Int); omega)).as (v' := .string (bytesL [byt digS (w % 16)])) (congrArg _ (hex_ext (n := w % 16) (by omega)))) rfl ?_
      first
        | refine Q_v ((opv_addS rfl rfl (by simp only [ByteArray.size_append, bytesL_size, List.length_singleton]; omega)).as (v' := .string (printB (ms.take (i + 1)))) (congrArg _ (by rw [take_snoc hx, printB_snoc (fun e => by have := congrArg List.length e; rw [List.length_take, hb.1, List.length_nil] at this; omega), ByteArray.append_assoc]; rfl))) rfl ?_
        | refine Q_v ((opv_addS rfl rfl (by simp only [ByteArray.size_append, bytesL_size, List.length_singleton]; omega)).as (v' := .string (printB (ms.take (i + 1)))) (congrArg _ (by obtain rfl : i = 0 := (by omega); rw [take_snoc hx]; show (ByteArray.empty ++ _) ++ _ = _; rw [ByteArray.empty_append]; rfl))) rfl ?_
      refine Q_v (opv_assign rfl) rfl ?_
      refine QL_nil ?_
      refine K_block ?_
      refine K_then ?_
      refine J_region ?_
      refine L_v (opv_move rfl) rfl ?_
      first
        | refine L_v (opv_add64 rfl rfl (by omega)) rfl ?_
        | refine L_v (opv_addS rfl rfl (by omega)) rfl ?_
        | refine L_v (opv_add rfl rfl) rfl ?_
      refine L_v (opv_assign rfl) rfl ?_
      refine L_nil ?_
      exact K_loop ((i + 1)) (by omega) (by omega) ⟨rfl, rfl, rfl, trivial⟩ (Ent.refl _)
    · refine J_skip ?_
      refine K_then ?_
      refine J_quiet Tryd.mixed (by kernel_rfl) ?_
      refine Q_v (opv_move rfl) rfl ?_
      refine Q_v (opv_move rfl) rfl ?_
      refine Q_v (opv_move rfl) rfl ?_
      refine Q_v ((opv_indexS rfl rfl (by rw [tx_size, hb.1]; omega)).as (v' := .int .u8 ((w : Nat) : Int)) (congrArg _ (byt_tx hx hw))) rfl ?_
      refine Q_v ((opv_quo rfl rfl (by decide)).as (q16 hw)) rfl ?_
      refine Q_v (opv_move rfl) rfl ?_
      refine Q_v (opv_move rfl) rfl ?_
      refine Q_v ((opv_indexS rfl rfl (by rw [tx_size, hb.1]; omega)).as (v' := .int .u8 ((w : Nat) : Int)) (congrArg _ (byt_tx hx hw))) rfl ?_
      refine Q_v ((opv_quo rfl rfl (by decide)).as (q16 hw)) rfl ?_
      refine Q_v ((opv_addW rfl rfl (Go.IntWalk.u8_in _ (by omega))).as (v' := .int .u8 ((w / 16 + 1 : Nat) : Int)) rfl) rfl ?_
      refine Q_v ((opv_sliceS rfl rfl rfl (by show 0 ≤ _ ∧ _ ∧ _ ≤ ((16 : Nat) : Int); omega)).as (v' := .string (bytesL [byt digS (w / 16)])) (congrArg _ (hex_ext (n := w / 16) (by omega)))) rfl ?_
      refine Q_v ((opv_addS rfl rfl (by simp only [ByteArray.size_append, bytesL_size, List.length_singleton]; omega))) rfl ?_
      refine Q_v (opv_move rfl) rfl ?_
      refine Q_v (opv_move rfl) rfl ?_
      refine Q_v ((opv_indexS rfl rfl (by rw [tx_size, hb.1]; omega)).as (v' := .int .u8 ((w : Nat) : Int)) (congrArg _ (byt_tx hx hw))) rfl ?_
      refine Q_v ((opv_remP rfl rfl (by omega)).as (v' := .int .u8 ((w % 16 : Nat) : Int)) rfl) rfl ?_
      refine Q_v (opv_move rfl) rfl ?_
      refine Q_v (opv_move rfl) rfl ?_
      refine Q_v ((opv_indexS rfl rfl (by rw [tx_size, hb.1]; omega)).as (v' := .int .u8 ((w : Nat) : Int)) (congrArg _ (byt_tx hx hw))) rfl ?_
      refine Q_v ((opv_remP rfl rfl (by omega)).as (v' := .int .u8 ((w % 16 : Nat) : Int)) rfl) rfl ?_
      refine Q_v ((opv_addW rfl rfl (Go.IntWalk.u8_in _ (by omega))).as (v' := .int .u8 ((w % 16 + 1 : Nat) : Int)) rfl) rfl ?_
      refine Q_v ((opv_sliceS rfl rfl rfl (by show 0 ≤ _ ∧ _ ∧ _ ≤ ((16 : Nat) : Int); omega)).as (v' := .string (bytesL [byt digS (w % 16)])) (congrArg _ (hex_ext (n := w % 16) (by omega)))) rfl ?_
      first
        | refine Q_v ((opv_addS rfl rfl (by simp only [ByteArray.size_append, bytesL_size, List.length_singleton]; omega)).as (v' := .string (printB (ms.take (i + 1)))) (congrArg _ (by rw [take_snoc hx, printB_snoc (fun e => by have := congrArg List.length e; rw [List.length_take, hb.1, List.length_nil] at this; omega), ByteArray.append_assoc]; rfl))) rfl ?_
        | refine Q_v ((opv_addS rfl rfl (by simp only [ByteArray.size_append, bytesL_size, List.length_singleton]; omega)).as (v' := .string (printB (ms.take (i + 1)))) (congrArg _ (by obtain rfl : i = 0 := (by omega); rw [take_snoc hx]; show (ByteArray.empty ++ _) ++ _ = _; rw [ByteArray.empty_append]; rfl))) rfl ?_
      refine Q_v (opv_assign rfl) rfl ?_
      refine QL_nil ?_
      refine K_block ?_
      refine K_then ?_
      refine J_region ?_
      refine L_v (opv_move rfl) rfl ?_
      first
        | refine L_v (opv_add64 rfl rfl (by omega)) rfl ?_
        | refine L_v (opv_addS rfl rfl (by omega)) rfl ?_
        | refine L_v (opv_add rfl rfl) rfl ?_
      refine L_v (opv_assign rfl) rfl ?_
      refine L_nil ?_
      exact K_loop ((i + 1)) (by omega) (by omega) ⟨rfl, rfl, rfl, trivial⟩ (Ent.refl _)
  · refine J_exit ?_
    refine K_then_exit ?_
    refine K_then_exit ?_
    refine K_block_here ?_
    refine K_then ?_
    refine J_seq ?_
    refine J_region ?_
    refine L_v (opv_move rfl) rfl ?_
    refine L_v (opv_assign rfl) rfl ?_
    refine L_nil ?_
    refine K_then ?_
    refine J_ret ?_
    exact K_ret1 rfl rfl () trivial ((by rw [show ms.take i = ms from List.take_of_length_le (by rw [hb.1]; omega)])) (Ent.of (emp_sep _).symm)


/-- The document's walk over a text: k numbers are read. -/
def Rdn (s : ByteArray) (k : Nat) (ms : List Nat) : Prop := Bys k ms ∧ (cs s).take (3 * k) = pfx ms
theorem pfx_snoc (ms : List Nat) (w : Nat) : pfx (ms ++ [w]) = pfx ms ++ [dig (w / 16)] ++ [dig (w % 16)] ++ [58] := by
  unfold pfx
  rw [List.flatMap_append]
  simp
theorem Rdn.step {s : ByteArray} {k a b : Nat} {ms : List Nat} (h : Rdn s k ms) (ha : a < 16) (hb : b < 16) (h1 : (cs s)[3 * k]? = some (dig a)) (h2 : (cs s)[3 * k + 1]? = some (dig b)) (h3 : (cs s)[3 * k + 2]? = some 58) : Rdn s (k + 1) (ms ++ [16 * a + b]) := by
  refine ⟨⟨by rw [List.length_append, h.1.1]; rfl, fun w hw => ?_⟩, ?_⟩
  · rcases List.mem_append.1 hw with hw | hw
    · exact h.1.2 w hw
    · rw [List.mem_singleton.1 hw]; omega
  · rw [show 3 * (k + 1) = 3 * k + 1 + 1 + 1 by omega, take_snoc h3, take_snoc h2, take_snoc h1, h.2, pfx_snoc, show (16 * a + b) / 16 = a by omega, show (16 * a + b) % 16 = b by omega]
theorem Rdn.isA {s : ByteArray} {ms : List Nat} (hs : s.size = 17) (h : Rdn s 6 ms) : IsA s ms := by
  refine ⟨h.1, (is_print h.1.2 h.1.1 s).2 ?_⟩
  have := h.2
  rwa [List.take_of_length_le (by rw [cs_len, hs]; decide)] at this
theorem isA_at {s : ByteArray} {ms : List Nat} (h : IsA s ms) {k : Nat} (hk : k < 6) : ∃ w, ms[k]? = some w ∧ w < 256 ∧ (cs s)[3 * k]? = some (dig (w / 16)) ∧ (cs s)[3 * k + 1]? = some (dig (w % 16)) ∧ (cs s)[3 * k + 2]? = some 58 := by
  obtain ⟨w, hx, hm⟩ := get_lt (l := ms) (i := k) (by rw [h.1.1]; exact hk)
  have e := (is_print h.1.2 h.1.1 s).1 h.2
  rw [e]
  exact ⟨w, hx, h.1.2 w hm, pfx_get hx⟩
theorem isA_size {s : ByteArray} {ms : List Nat} (h : IsA s ms) : s.size = 17 := by
  have e := congrArg List.length ((is_print h.1.2 h.1.1 s).1 h.2)
  rw [cs_len, pfx_len, h.1.1] at e
  omega
theorem no_a {s : ByteArray} {k : Nat} (hk : k < 6) (hi : 3 * k < s.size) (h : rdig (cN s (3 * k)) < 0) : ∀ ms, ¬ IsA s ms := fun ms hm => by
  obtain ⟨w, _, hw, h1, _, _⟩ := isA_at hm hk
  rw [cs_get hi] at h1
  rw [Option.some.inj h1, rdig_dig (by omega)] at h
  omega
theorem no_b {s : ByteArray} {k : Nat} (hk : k < 6) (hi : 3 * k + 1 < s.size) (h : rdig (cN s (3 * k + 1)) < 0) : ∀ ms, ¬ IsA s ms := fun ms hm => by
  obtain ⟨w, _, hw, _, h1, _⟩ := isA_at hm hk
  rw [cs_get hi] at h1
  rw [Option.some.inj h1, rdig_dig (by omega)] at h
  omega
theorem no_c {s : ByteArray} {k : Nat} (hk : k < 6) (hi : 3 * k + 2 < s.size) (h : (((cN s (3 * k + 2)) : Nat) : Int) ≠ 58) : ∀ ms, ¬ IsA s ms := fun ms hm => by
  obtain ⟨w, _, hw, _, _, h1⟩ := isA_at hm hk
  rw [cs_get hi] at h1
  exact h (by rw [Option.some.inj h1]; rfl)
theorem at_c {s : ByteArray} {k : Nat} (hs : s.size = 17) (hk : k < 6) (h : (3 * k + 2 < 17 ∧ ¬ (((cN s (3 * k + 2)) : Nat) : Int) ≠ 58) ∨ ¬ 3 * k + 2 < 17) : (cs s)[3 * k + 2]? = some 58 := by
  rcases h with ⟨h1, h2⟩ | h
  · rw [cs_get (by omega)]
    congr 1
    omega
  · rw [show 3 * k + 2 = s.size by omega, cs_end]
theorem no_size {s : ByteArray} (h : ¬ s.size = 17) : ∀ ms, ¬ IsA s ms := fun ms hm => h (isA_size hm)

set_option maxHeartbeats 1000000 in
theorem RParse_spec (s : ByteArray) : FSpec Tryd.prog 36 #[.string s] (emp) (fun _ : Unit => True) (fun _ => .tuple #[.string (txe (parseV s)), .int .i64 (parseV s).2]) (fun _ => emp) := by
  refine FSpec.enter' Tryd.func36 rfl Tryd.ntmps36 rfl fun σ F => ?_
  refine J_emp ?_
  refine J_seq ?_
  refine J_region ?_
  refine L_v (opv_assign rfl) rfl ?_
  refine L_v (opv_assign rfl) rfl ?_
  refine L_nil ?_
  refine K_then ?_
  refine J_seq ?_
  refine J_seq ?_
  refine J_region ?_
  refine L_v (opv_move rfl) rfl ?_
  first
    | refine L_v (opv_lenL rfl) rfl ?_
    | refine L_v (opv_lenS rfl) rfl ?_
  first
    | refine L_v (opv_neq rfl rfl) rfl ?_
    | refine L_v (opv_neqS rfl rfl) rfl ?_
    | refine L_v (opv_neqNil rfl rfl) rfl ?_
    | refine L_v (opv_neqB rfl rfl) rfl ?_
  refine L_nil ?_
  refine K_then ?_
  refine J_cond rfl (fun h1 => ?_) (fun h1 => ?_)
  · refine J_seq ?_
    refine J_region ?_
    refine L_v (opv_assign rfl) rfl ?_
    refine L_v (opv_assign rfl) rfl ?_
    refine L_nil ?_
    refine K_then ?_
    refine J_ret ?_
    refine K_then_ret ?_
    exact K_ret2 rfl rfl rfl () trivial (by rw [parseV_no (no_size (by omega))]; rfl) (Ent.of (emp_sep _).symm)
  · have hs17 : s.size = 17 := by omega
    refine J_skip ?_
    refine K_then ?_
    refine J_seq ?_
    refine J_region ?_
    refine L_v (opv_assign rfl) rfl ?_
    refine L_nil ?_
    refine K_then ?_
    refine J_seq ?_
    refine J_seq ?_
    refine J_region ?_
    refine L_v (opv_assign rfl) rfl ?_
    refine L_nil ?_
    refine K_then ?_
    refine J_block ?_
    refine J_loop (X := Nat × List Nat) (fun z => [(0, .string s), (4, .string (tx z.2)), (5, .int .i64 ((3 * z.1 : Nat) : Int))]) (fun z => F) (fun z => z.1 ≤ 6 ∧ Rdn s z.1 z.2) (fun z => 6 - z.1) ((0, [])) ⟨by decide, ⟨rfl, by simp⟩, rfl⟩ ⟨rfl, rfl, rfl, trivial⟩ (Ent.refl _) (fun z hz => ?_)
    refine J_seq ?_
    refine J_seq ?_
    refine J_region ?_
    refine L_v (opv_move rfl) rfl ?_
    refine L_v (opv_lss rfl rfl) rfl ?_
    refine L_nil ?_
    refine K_then ?_
    refine J_cond rfl (fun h2 => ?_) (fun h2 => ?_)
    · have hc0 := cN_lt s (3 * z.1)
      have hc1 := cN_lt s (3 * z.1 + 1)
      refine J_skip ?_
      refine K_then ?_
      refine J_seq ?_
      refine J_block ?_
      refine J_seq ?_
      refine J_region ?_
      refine L_v (opv_move rfl) rfl ?_
      refine L_v (opv_move rfl) rfl ?_
      refine L_v ((opv_indexS rfl rfl (by omega)).as (v' := .int .u8 ((cN s (3 * z.1) : Nat) : Int)) rfl) rfl ?_
      refine L_x rfl (opx_call0 (digit_spec (cN s (3 * z.1)) hc0) rfl rfl rfl) (fun _ _ => ?_)
      refine L_emp ?_
      refine L_v (opv_assign rfl) rfl ?_
      refine L_nil ?_
      refine K_then ?_
      refine J_seq ?_
      refine J_region ?_
      refine L_v (opv_move rfl) rfl ?_
      refine L_v (opv_move rfl) rfl ?_
      refine L_v ((opv_add64 rfl rfl (by omega)).as (v' := .int .i64 ((3 * z.1 + 1 : Nat) : Int)) (congrArg _ (by omega))) rfl ?_
      refine L_v ((opv_indexS rfl rfl (by omega)).as (v' := .int .u8 ((cN s (3 * z.1 + 1) : Nat) : Int)) rfl) rfl ?_
      refine L_x rfl (opx_call0 (digit_spec (cN s (3 * z.1 + 1)) hc1) rfl rfl rfl) (fun _ _ => ?_)
      refine L_emp ?_
      refine L_v (opv_assign rfl) rfl ?_
      refine L_nil ?_
      refine K_then ?_
      refine J_seq ?_
      refine J_seq ?_
      refine J_region ?_
      refine L_v (opv_move rfl) rfl ?_
      refine L_v (opv_lss rfl rfl) rfl ?_
      refine L_v (opv_move rfl) rfl ?_
      refine L_gf rfl rfl (fun h3 => ?_) (fun h3 => ?_) (fun _ h => by cases h; rfl)
      · refine L_v (opv_move rfl) rfl ?_
        refine L_gf_on h3 rfl rfl ?_
        refine L_v (opv_lss rfl rfl) rfl ?_
        refine L_v (opv_pick_f rfl h3 rfl) rfl ?_
        refine L_v (opv_move rfl) rfl ?_
        refine L_gf rfl rfl (fun h4 => ?_) (fun h4 => ?_) (fun _ h => by cases h; rfl)
        · refine L_v (opv_move rfl) rfl ?_
          refine L_gf_on h4 rfl rfl ?_
          refine L_v ((opv_add64 rfl rfl (by omega)).as (v' := .int .i64 ((3 * z.1 + 2 : Nat) : Int)) (congrArg _ (by omega))) rfl ?_
          refine L_gf_on h4 rfl rfl ?_
          refine L_v (opv_lss rfl rfl) rfl ?_
          refine L_gf_on h4 rfl rfl ?_
          refine L_v (opv_move rfl) rfl ?_
          refine L_gt rfl rfl (fun h5 => ?_) (fun h5 => ?_) (fun _ h => by cases h; rfl)
          · refine L_v (opv_move rfl) rfl ?_
            refine L_gt_on h5 rfl rfl ?_
            refine L_v (opv_move rfl) rfl ?_
            refine L_gt_on h5 rfl rfl ?_
            refine L_v ((opv_add64 rfl rfl (by omega)).as (v' := .int .i64 ((3 * z.1 + 2 : Nat) : Int)) (congrArg _ (by omega))) rfl ?_
            refine L_gt_on h5 rfl rfl ?_
            refine L_v ((opv_indexS rfl rfl (by omega)).as (v' := .int .u8 ((cN s (3 * z.1 + 2) : Nat) : Int)) rfl) rfl ?_
            refine L_gt_on h5 rfl rfl ?_
            first
              | refine L_v (opv_neq rfl rfl) rfl ?_
              | refine L_v (opv_neqS rfl rfl) rfl ?_
              | refine L_v (opv_neqNil rfl rfl) rfl ?_
              | refine L_v (opv_neqB rfl rfl) rfl ?_
            refine L_gf_on h4 rfl rfl ?_
            refine L_v (opv_pick_t rfl h5 rfl) rfl ?_
            refine L_v (opv_pick_f rfl h4 rfl) rfl ?_
            refine L_nil ?_
            refine K_then ?_
            refine J_cond rfl (fun h6 => ?_) (fun h6 => ?_)
            · refine J_seq ?_
              refine J_region ?_
              refine L_v (opv_assign rfl) rfl ?_
              refine L_v (opv_assign rfl) rfl ?_
              refine L_nil ?_
              refine K_then ?_
              refine J_ret ?_
              refine K_then_ret ?_
              refine K_block_ret ?_
              refine K_then_ret ?_
              refine K_then_ret ?_
              refine K_block_ret ?_
              refine K_then_ret ?_
              exact K_ret2 rfl rfl rfl () trivial (by rw [parseV_no (by first | exact no_a (k := z.1) (by omega) (by omega) (by assumption) | exact no_b (k := z.1) (by omega) (by omega) (by assumption) | exact no_c (k := z.1) (by omega) (by omega) (by assumption))]; rfl) (Ent.of (emp_sep _).symm)
            · obtain ⟨ha, ha16, hda, hra⟩ := rdig_yes (c := cN s (3 * z.1)) (by omega) hc0
              obtain ⟨hb, hb16, hdb, hrb⟩ := rdig_yes (c := cN s (3 * z.1 + 1)) (by omega) hc1
              have hga : (cs s)[3 * z.1]? = some (dig ha) := by rw [cs_get (by omega), hda]
              have hgb : (cs s)[3 * z.1 + 1]? = some (dig hb) := by rw [cs_get (by omega), hdb]
              have hsz : z.2.length = z.1 := hz.2.1.1
              refine J_skip ?_
              refine K_then ?_
              refine J_region ?_
              refine L_v (opv_move rfl) rfl ?_
              refine L_v (opv_move rfl) rfl ?_
              refine L_v ((opv_mul64 rfl rfl (by omega)).as (v' := .int .i64 ((16 * ha : Nat) : Int)) (congrArg _ (by omega))) rfl ?_
              refine L_v (opv_move rfl) rfl ?_
              refine L_v ((opv_add64 rfl rfl (by omega)).as (v' := .int .i64 ((16 * ha + hb : Nat) : Int)) (congrArg _ (by omega))) rfl ?_
              refine L_v (opv_convW rfl (Go.IntWalk.u8_in _ (by omega))) rfl ?_
              refine L_x rfl (opx_buildSlice1 (m := 1) rfl rfl (by omega) (by omega) rfl) (fun b48 _ => ?_)
              refine L_v (opv_b2sL ([((16 * ha + hb : Nat) : Int)]) rfl rfl rfl (by simp; try omega)) rfl ?_
              refine L_v ((opv_addS rfl rfl (by rw [tx_size, hsz]; show _ + (tx [16 * ha + hb]).size ≤ _; rw [tx_size]; show _ + 1 ≤ _; omega)).as (v' := .string (tx (z.2 ++ [16 * ha + hb]))) (congrArg _ (tx_append _ _).symm)) rfl ?_
              refine L_v (opv_assign rfl) rfl ?_
              refine L_nil ?_
              refine K_block ?_
              refine K_then ?_
              refine J_region ?_
              refine L_v (opv_move rfl) rfl ?_
              refine L_v ((opv_add64 rfl rfl (by omega)).as (v' := .int .i64 ((3 * (z.1 + 1) : Nat) : Int)) (congrArg _ (by omega))) rfl ?_
              refine L_v (opv_assign rfl) rfl ?_
              refine L_nil ?_
              exact K_loop ((z.1 + 1, z.2 ++ [16 * ha + hb])) ⟨by show z.1 + 1 ≤ 6; omega, hz.2.step ha16 hb16 hga hgb (at_c hs17 (by omega) (by omega))⟩ (by show 6 - (z.1 + 1) < _; omega) ⟨rfl, rfl, rfl, trivial⟩ Ent.drop
          · refine L_gt_off h5 rfl rfl ?_ (fun _ h => by cases h; rfl)
            refine L_gt_off h5 rfl rfl ?_ (fun _ h => by cases h; rfl)
            refine L_gt_off h5 rfl rfl ?_ (fun _ h => by cases h; rfl)
            refine L_gt_off h5 rfl rfl ?_ (fun _ h => by cases h; rfl)
            refine L_gf_on h4 rfl rfl ?_
            refine L_v (opv_pick_f rfl h5 rfl) rfl ?_
            refine L_v (opv_pick_f rfl h4 rfl) rfl ?_
            refine L_nil ?_
            refine K_then ?_
            refine J_cond_false rfl ?_
            obtain ⟨ha, ha16, hda, hra⟩ := rdig_yes (c := cN s (3 * z.1)) (by omega) hc0
            obtain ⟨hb, hb16, hdb, hrb⟩ := rdig_yes (c := cN s (3 * z.1 + 1)) (by omega) hc1
            have hga : (cs s)[3 * z.1]? = some (dig ha) := by rw [cs_get (by omega), hda]
            have hgb : (cs s)[3 * z.1 + 1]? = some (dig hb) := by rw [cs_get (by omega), hdb]
            have hsz : z.2.length = z.1 := hz.2.1.1
            refine J_skip ?_
            refine K_then ?_
            refine J_region ?_
            refine L_v (opv_move rfl) rfl ?_
            refine L_v (opv_move rfl) rfl ?_
            refine L_v ((opv_mul64 rfl rfl (by omega)).as (v' := .int .i64 ((16 * ha : Nat) : Int)) (congrArg _ (by omega))) rfl ?_
            refine L_v (opv_move rfl) rfl ?_
            refine L_v ((opv_add64 rfl rfl (by omega)).as (v' := .int .i64 ((16 * ha + hb : Nat) : Int)) (congrArg _ (by omega))) rfl ?_
            refine L_v (opv_convW rfl (Go.IntWalk.u8_in _ (by omega))) rfl ?_
            refine L_x rfl (opx_buildSlice1 (m := 1) rfl rfl (by omega) (by omega) rfl) (fun b48 _ => ?_)
            refine L_v (opv_b2sL ([((16 * ha + hb : Nat) : Int)]) rfl rfl rfl (by simp; try omega)) rfl ?_
            refine L_v ((opv_addS rfl rfl (by rw [tx_size, hsz]; show _ + (tx [16 * ha + hb]).size ≤ _; rw [tx_size]; show _ + 1 ≤ _; omega)).as (v' := .string (tx (z.2 ++ [16 * ha + hb]))) (congrArg _ (tx_append _ _).symm)) rfl ?_
            refine L_v (opv_assign rfl) rfl ?_
            refine L_nil ?_
            refine K_block ?_
            refine K_then ?_
            refine J_region ?_
            refine L_v (opv_move rfl) rfl ?_
            refine L_v ((opv_add64 rfl rfl (by omega)).as (v' := .int .i64 ((3 * (z.1 + 1) : Nat) : Int)) (congrArg _ (by omega))) rfl ?_
            refine L_v (opv_assign rfl) rfl ?_
            refine L_nil ?_
            exact K_loop ((z.1 + 1, z.2 ++ [16 * ha + hb])) ⟨by show z.1 + 1 ≤ 6; omega, hz.2.step ha16 hb16 hga hgb (at_c hs17 (by omega) (by omega))⟩ (by show 6 - (z.1 + 1) < _; omega) ⟨rfl, rfl, rfl, trivial⟩ Ent.drop
        · refine L_gf_off h4 rfl rfl ?_ (fun _ h => by cases h; rfl)
          refine L_gf_off h4 rfl rfl ?_ (fun _ h => by cases h; rfl)
          refine L_gskipU rfl rfl (by simp [h4]) rfl ?_
          refine L_gU rfl rfl rfl ?_
          refine L_gU rfl rfl rfl ?_
          refine L_gU rfl rfl rfl ?_
          refine L_gU rfl rfl rfl ?_
          refine L_gU rfl rfl rfl ?_
          refine L_gf_off h4 rfl rfl ?_ (fun _ h => by cases h; rfl)
          refine L_v (opv_pick_t rfl h4 rfl) rfl ?_
          refine L_nil ?_
          refine K_then ?_
          refine J_cond_true rfl ?_
          refine J_seq ?_
          refine J_region ?_
          refine L_v (opv_assign rfl) rfl ?_
          refine L_v (opv_assign rfl) rfl ?_
          refine L_nil ?_
          refine K_then ?_
          refine J_ret ?_
          refine K_then_ret ?_
          refine K_block_ret ?_
          refine K_then_ret ?_
          refine K_then_ret ?_
          refine K_block_ret ?_
          refine K_then_ret ?_
          exact K_ret2 rfl rfl rfl () trivial (by rw [parseV_no (by first | exact no_a (k := z.1) (by omega) (by omega) (by assumption) | exact no_b (k := z.1) (by omega) (by omega) (by assumption) | exact no_c (k := z.1) (by omega) (by omega) (by assumption))]; rfl) (Ent.of (emp_sep _).symm)
      · refine L_gf_off h3 rfl rfl ?_ (fun _ h => by cases h; rfl)
        refine L_v (opv_pick_t rfl h3 rfl) rfl ?_
        refine L_v (opv_move rfl) rfl ?_
        refine L_gskip rfl rfl rfl ?_ (fun _ h => by cases h; rfl)
        refine L_gskip rfl rfl rfl ?_ (fun _ h => by cases h; rfl)
        refine L_gskip rfl rfl rfl ?_ (fun _ h => by cases h; rfl)
        refine L_gskipU rfl rfl rfl rfl ?_
        refine L_gU rfl rfl rfl ?_
        refine L_gU rfl rfl rfl ?_
        refine L_gU rfl rfl rfl ?_
        refine L_gU rfl rfl rfl ?_
        refine L_gU rfl rfl rfl ?_
        refine L_gskip rfl rfl rfl ?_ (fun _ h => by cases h; rfl)
        first
          | refine L_v (opv_pick_tt rfl rfl) rfl ?_
          | refine L_v (opv_pick_ff rfl rfl) rfl ?_
          | refine L_v (opv_pick rfl rfl rfl) rfl ?_
        refine L_nil ?_
        refine K_then ?_
        refine J_cond_true rfl ?_
        refine J_seq ?_
        refine J_region ?_
        refine L_v (opv_assign rfl) rfl ?_
        refine L_v (opv_assign rfl) rfl ?_
        refine L_nil ?_
        refine K_then ?_
        refine J_ret ?_
        refine K_then_ret ?_
        refine K_block_ret ?_
        refine K_then_ret ?_
        refine K_then_ret ?_
        refine K_block_ret ?_
        refine K_then_ret ?_
        exact K_ret2 rfl rfl rfl () trivial (by rw [parseV_no (by first | exact no_a (k := z.1) (by omega) (by omega) (by assumption) | exact no_b (k := z.1) (by omega) (by omega) (by assumption) | exact no_c (k := z.1) (by omega) (by omega) (by assumption))]; rfl) (Ent.of (emp_sep _).symm)
    · refine J_exit ?_
      refine K_then_exit ?_
      refine K_then_exit ?_
      refine K_block_here ?_
      refine K_then ?_
      refine J_seq ?_
      refine J_region ?_
      refine L_v (opv_move rfl) rfl ?_
      refine L_v (opv_assign rfl) rfl ?_
      refine L_v (opv_assign rfl) rfl ?_
      refine L_nil ?_
      refine K_then ?_
      refine J_ret ?_
      have h6 : z.1 = 6 := by omega
      have hp := parseV_yes (s := s) (ms := z.2) ((h6 ▸ hz.2).isA hs17)
      exact K_ret2 rfl rfl rfl () trivial (by rw [hp]; rfl) (Ent.of (emp_sep _).symm)

end Go.Proofs.YtkkoepnljofhpaaDoor
