/- Contracts of Parse and of the law AddrTexts, each proved by a walk over its code; they are used by the texts that import this one. -/
import Derived.Test.YtkkoepnljofhpaaDoorAt
import Derived.Test.YtkkoepnljofhpaaDoorAq
import Derived.Test.YtkkoepnljofhpaaDoorH
namespace Go.Proofs.YtkkoepnljofhpaaDoor
open Go.SLA
set_option maxRecDepth 100000
set_option linter.unusedVariables false
set_option linter.unusedSimpArgs false
attribute [local irreducible] J L K QL Rg FSpec OpV OpX Rd Back
theorem Split_fs (s : ByteArray) (hs : s.size < 4294967281) : FSpec Tryd.prog 46 #[.string s, .string colon] (emp) (fun b : Nat => True) (fun b => .slice (some (ad b 0)) (pieces s).length (pieces s).length) (fun b => cel b ((pieces s).flatMap encS) 9) := by
  refine FSpec.enter' Tryd.func46 rfl Tryd.ntmps46 rfl fun σ F => ?_
  refine J_seq ?_
  refine J_region ?_
  refine L_v (opv_assign rfl) rfl ?_
  refine L_nil ?_
  refine K_then ?_
  refine J_seq ?_
  refine J_region ?_
  refine L_v (opv_move rfl) rfl ?_
  refine L_v (opv_move rfl) rfl ?_
  refine L_x rfl (opx_call0 (genSplit_fs s hs) rfl rfl rfl) (fun y7 _ => ?_)
  refine L_v (opv_assign rfl) rfl ?_
  refine L_nil ?_
  refine K_then ?_
  refine J_ret ?_
  exact K_ret1 rfl rfl y7 trivial rfl Ent.take


theorem flatS_get {q : List ByteArray} {i : Nat} {x : ByteArray} (h : q[i]? = some x) : (q.flatMap encS)[0 + i * 1]? = some (.string x) := by
  have := flat_get encS_len q i 0 x h (by decide)
  rw [Nat.zero_add]
  exact this
theorem set_map8 {l : List Nat} {i w : Nat} (h : i < l.length) : (l.set i w).map enc8 = (l.map enc8).take (0 + i * 1) ++ [.int .u8 (w : Nat)] ++ (l.map enc8).drop (0 + i * 1 + 1) := by
  rw [Nat.zero_add, Nat.mul_one, List.set_eq_take_append_cons_drop, if_pos h]
  simp [enc8]
theorem wr8' (n : Nat) : Value.int .u8 (IntKind.u8.wrap (n : Int)) = .int .u8 ((n % 256 : Nat) : Int) := congrArg _ (wr8 n)
theorem Bys.set {l : List Nat} {i w : Nat} (h : Bys 6 l) (hw : w < 256) : Bys 6 (l.set i w) := ⟨by rw [List.length_set, h.1], fun x hx => by
  rcases List.mem_or_eq_of_mem_set hx with hx | rfl
  · exact h.2 x hx
  · exact hw⟩
theorem bys_ne {ms : List Nat} (h : Bys 6 ms) : ms ≠ [] := fun e => by have := h.1; rw [e] at this; cases this
theorem isA_pieces {s : ByteArray} {ms : List Nat} (h : IsA s ms) : pieces s = ms.map pr2 := by rw [h.2, pieces_print h.1.2 (bys_ne h.1)]
theorem isA_six {s : ByteArray} {ms : List Nat} (h : IsA s ms) : (pieces s).length = 6 := by rw [isA_pieces h, List.length_map, h.1.1]
theorem isA_pu {s : ByteArray} {ms : List Nat} (h : IsA s ms) {i : Nat} {x : ByteArray} (hx : (pieces s)[i]? = some x) : ∃ w, ms[i]? = some w ∧ w < 256 ∧ pu x = (w, 0) := by
  rw [isA_pieces h, List.getElem?_map] at hx
  cases hm : ms[i]? with
  | none => rw [hm] at hx; cases hx
  | some w =>
    rw [hm] at hx
    have hw := h.1.2 w (List.mem_of_getElem? hm)
    exact ⟨w, rfl, hw, by rw [← Option.some.inj hx]; exact pu_pr2 hw⟩
/-- What holds while the parts are read. -/
def Got (s : ByteArray) (i : Nat) (l : List Nat) : Prop := Bys 6 l ∧ ∀ ms, IsA s ms → ∀ j, j < i → l[j]? = ms[j]?
theorem Got.step {s : ByteArray} {i : Nat} {l : List Nat} {x : ByteArray} (h : Got s i l) (hi : i < 6) (hx : (pieces s)[i]? = some x) : Got s (i + 1) (l.set i ((pu x).1 % 256)) := by
  refine ⟨h.1.set (Nat.mod_lt _ (by decide)), fun ms hm j hj => ?_⟩
  rcases (show j < i ∨ j = i by omega) with hj | rfl
  · rw [List.getElem?_set_ne (by omega)]; exact h.2 ms hm j hj
  · obtain ⟨w, hw, hlt, hp⟩ := isA_pu hm hx
    rw [List.getElem?_set_self (by rw [h.1.1]; exact hi), hw, hp]
    congr 1
    exact Nat.mod_eq_of_lt hlt
theorem Got.eq {s : ByteArray} {l ms : List Nat} (h : Got s 6 l) (hm : IsA s ms) : l = ms := by
  apply List.ext_getElem?
  intro i
  rcases Nat.lt_or_ge i 6 with hi | hi
  · exact h.2 ms hm i hi
  · rw [List.getElem?_eq_none (by rw [h.1.1]; exact hi), List.getElem?_eq_none (by rw [hm.1.1]; exact hi)]
theorem no_pu {s : ByteArray} {i : Nat} {x : ByteArray} (hx : (pieces s)[i]? = some x) (h : ¬ (pu x).2 = 0) : ∀ ms, ¬ IsA s ms := fun ms hm => by
  obtain ⟨w, _, _, hp⟩ := isA_pu hm hx
  exact h (by rw [hp])
theorem parseV_bys (s : ByteArray) : Bys 6 (parseV s).1 := by
  by_cases h : ∃ ms, IsA s ms
  · obtain ⟨ms, hm⟩ := h
    rw [parseV_yes hm]; exact hm.1
  · rw [parseV_no (fun ms hm => h ⟨ms, hm⟩)]; exact bys6 (by decide)
theorem no_six {s : ByteArray} (h : ¬ (pieces s).length = 6) : ∀ ms, ¬ IsA s ms := fun ms hm => h (isA_six hm)
theorem yes_print {s : ByteArray} {l : List Nat} (h : Got s 6 l) (hn : ¬ printB l ≠ s) : IsA s l := ⟨h.1, (Classical.not_not.1 hn).symm⟩
theorem no_print {s : ByteArray} {l : List Nat} (h : Got s 6 l) (hn : printB l ≠ s) : ∀ ms, ¬ IsA s ms := fun ms hm => hn (by rw [h.eq hm]; exact hm.2.symm)

set_option maxHeartbeats 1000000 in
theorem Parse_spec (W : World) (hW : W.cell? (ad 7 15) = some (.int .u8 4)) (hE : ErrsOk W) (s : ByteArray) (hs : s.size ≤ 100) : FSpec Tryd.prog 35 #[.string s] (old W) (fun _ : Unit => True) (fun _ => at2 (parseV s)) (fun _ => old W) := by
  refine FSpec.enter' Tryd.func35 rfl Tryd.ntmps35 rfl fun σ F => ?_
  refine J_seq ?_
  refine J_region ?_
  refine L_x rfl (opx_alloc rfl) (fun b2 _ => ?_)
  refine L_v (opv_assign rfl) rfl ?_
  refine L_nil ?_
  refine K_then ?_
  refine J_seq ?_
  refine J_region ?_
  refine L_x rfl (opx_alloc rfl) (fun b4 _ => ?_)
  refine L_nil ?_
  refine K_then ?_
  refine J_seq ?_
  refine J_region ?_
  refine L_v (opv_move rfl) rfl ?_
  refine L_x rfl (opx_call0 (Split_fs s (by omega)) rfl rfl rfl) (fun y11 _ => ?_)
  refine L_v (opv_assign rfl) rfl ?_
  refine L_nil ?_
  refine K_then ?_
  refine J_seq ?_
  refine J_seq ?_
  refine J_region ?_
  refine L_v (opv_move rfl) rfl ?_
  first
    | refine L_v (opv_lenL rfl) rfl ?_
    | refine L_v (opv_lenS rfl) rfl ?_
  first
    | refine L_v (opv_neq rfl rfl) rfl ?_
    | refine L_v (opv_neqS rfl rfl) rfl ?_
    | refine L_v (opv_neqNil rfl rfl) rfl ?_
    | refine L_v (opv_neqB rfl rfl) rfl ?_
  refine L_nil ?_
  refine K_then ?_
  refine J_cond rfl (fun h1 => ?_) (fun h1 => ?_)
  · refine J_seq ?_
    refine J_region ?_
    refine L_v (opv_buildA (pl := [(0, 1), (1, 1), (2, 1), (3, 1), (4, 1), (5, 1)]) rfl rfl) rfl ?_
    refine L_x rfl (opx_store rfl rfl rfl (by simp [Value.oneCell'])) (fun _ _ => ?_)
    refine L_v (opv_assign rfl) rfl ?_
    refine L_nil ?_
    refine K_then ?_
    refine J_ret ?_
    refine K_then_ret ?_
    exact K_ret2c rfl rfl rfl rfl () trivial (by rw [parseV_no (no_six (by omega))]; rfl) Ent.take
  · have h6 : (pieces s).length = 6 := by omega
    refine J_skip ?_
    refine K_then ?_
    refine J_seq ?_
    refine J_seq ?_
    refine J_region ?_
    refine L_v (opv_move rfl) rfl ?_
    first
      | refine L_v (opv_lenL rfl) rfl ?_
      | refine L_v (opv_lenS rfl) rfl ?_
    refine L_v (opv_move rfl) rfl ?_
    refine L_nil ?_
    refine K_then ?_
    refine J_block ?_
    refine J_loop (X := Nat × List Nat) (fun z => [(0, .string s), (2, .pointer (some (ad b2 0))), (4, .pointer (some (ad b4 0))), (16, .slice (some (ad y11 0)) (pieces s).length (pieces s).length), (17, .int .i64 (pieces s).length), (18, .int .i64 z.1)]) (fun z => (sep (cel b4 (z.2.map enc8) 23) (sep (cel b2 [.int .u8 0, .int .u8 0, .int .u8 0, .int .u8 0, .int .u8 0, .int .u8 0] 23) (sep (cel y11 ((pieces s).flatMap encS) 9) (sep (old W) (F)))))) (fun z => z.1 ≤ 6 ∧ Got s z.1 z.2) (fun z => 6 - z.1) ((0, [0, 0, 0, 0, 0, 0])) ⟨by decide, bys6 (by decide), fun _ _ j h => absurd h (Nat.not_lt_zero j)⟩ ⟨rfl, rfl, rfl, rfl, rfl, rfl, trivial⟩ (by show Ent _ (sep (cel b4 ([.int .u8 0, .int .u8 0, .int .u8 0, .int .u8 0, .int .u8 0, .int .u8 0]) 23) (sep (cel b2 [.int .u8 0, .int .u8 0, .int .u8 0, .int .u8 0, .int .u8 0, .int .u8 0] 23) (sep (cel y11 ((pieces s).flatMap encS) 9) (sep (old W) (F))))); exact Ent.take) (fun z hz => ?_)
    refine J_seq ?_
    refine J_region ?_
    refine L_v (opv_lss rfl rfl) rfl ?_
    refine L_nil ?_
    refine K_then ?_
    refine J_seq ?_
    refine J_cond rfl (fun h2 => ?_) (fun h2 => ?_)
    · obtain ⟨x, hx, hm⟩ := get_lt (l := pieces s) (i := z.1) (by omega)
      have hxs := piece_size colon _ s x hm
      refine J_skip ?_
      refine K_then ?_
      refine J_seq ?_
      refine J_block ?_
      refine J_seq ?_
      refine J_region ?_
      refine L_v (opv_move rfl) rfl ?_
      first
        | refine L_v (opv_indexAddr rfl rfl (by omega)) rfl ?_
        | refine L_v (opv_indexAddrA rfl rfl (by omega)) rfl ?_
      refine L_v (opv_load (v := .string x) rfl (Rd.look (flatS_get hx))) rfl ?_
      refine L_v (opv_assign rfl) rfl ?_
      refine L_v (opv_assign rfl) rfl ?_
      refine L_nil ?_
      refine K_then ?_
      refine J_seq ?_
      refine J_region ?_
      refine L_v (opv_move rfl) rfl ?_
      refine L_x rfl (opx_call0 (PU_any W hE x (by omega)) rfl rfl rfl) (fun N _ => ?_)
      refine L_v (opv_move rfl) rfl ?_
      refine L_v (opv_extract (v := .int .u64 ((pu x).1 : Nat)) rfl rfl) rfl ?_
      refine L_v (opv_extract (v := if (pu x).2 = 0 then .nilIface else .iface 129 (.pointer (some (ad N 0)))) rfl rfl) rfl ?_
      refine L_v (opv_assign rfl) rfl ?_
      refine L_v (opv_assign rfl) rfl ?_
      refine L_nil ?_
      refine K_then ?_
      refine J_seq ?_
      refine J_seq ?_
      refine J_region ?_
      refine L_v (opv_move rfl) rfl ?_
      refine L_v (opv_neqIc (c := (pu x).2 = 0) rfl) rfl ?_
      refine L_nil ?_
      refine K_then ?_
      refine J_cond rfl (fun h3 => ?_) (fun h3 => ?_)
      · refine J_seq ?_
        refine J_region ?_
        refine L_v (opv_buildA (pl := [(0, 1), (1, 1), (2, 1), (3, 1), (4, 1), (5, 1)]) rfl rfl) rfl ?_
        refine L_x rfl (opx_store rfl rfl rfl (by simp [Value.oneCell'])) (fun _ _ => ?_)
        refine L_v (opv_assign rfl) rfl ?_
        refine L_nil ?_
        refine K_then ?_
        refine J_ret ?_
        refine K_then_ret ?_
        refine K_block_ret ?_
        refine K_then_ret ?_
        refine K_then_ret ?_
        refine K_block_ret ?_
        refine K_then_ret ?_
        exact K_ret2c rfl rfl rfl rfl () trivial (by rw [parseV_no (no_pu hx (by assumption))]; rfl) Ent.take
      · refine J_skip ?_
        refine K_then ?_
        refine J_region ?_
        refine L_v (opv_move rfl) rfl ?_
        refine L_v (opv_move rfl) rfl ?_
        refine L_v ((opv_convert rfl).as (wr8' _)) rfl ?_
        refine L_v ((opv_indexAddrA rfl rfl (by omega))) rfl ?_
        refine L_x rfl (opx_storeAt (m := 1) (l := z.2.map enc8) (vs := [.int .u8 (((pu x).1 % 256 : Nat) : Int)]) (l' := (z.2.set z.1 ((pu x).1 % 256)).map enc8) rfl rfl rfl (by simp [Value.oneCell']) (by rw [List.length_map, hz.2.1.1]; show 0 + z.1 * 1 + 1 ≤ 6; omega) (set_map8 (by rw [hz.2.1.1]; omega))) (fun _ _ => ?_)
        refine L_nil ?_
        refine K_block ?_
        refine K_then ?_
        refine J_region ?_
        first
          | refine L_v (opv_add64 rfl rfl (by omega)) rfl ?_
          | refine L_v (opv_addS rfl rfl (by omega)) rfl ?_
          | refine L_v (opv_add rfl rfl) rfl ?_
        refine L_v (opv_move rfl) rfl ?_
        refine L_nil ?_
        exact K_loop ((z.1 + 1, z.2.set z.1 ((pu x).1 % 256))) ⟨by show z.1 + 1 ≤ 6; omega, hz.2.step (by omega) hx⟩ (by show 6 - (z.1 + 1) < _; omega) ⟨rfl, rfl, rfl, rfl, rfl, rfl, trivial⟩ Ent.take
    · have hg6 : Got s 6 z.2 := (show z.1 = 6 by omega) ▸ hz.2
      refine J_exit ?_
      refine K_then_exit ?_
      refine K_then_exit ?_
      refine K_block_here ?_
      refine K_then ?_
      refine J_seq ?_
      refine J_seq ?_
      refine J_region ?_
      refine L_v (opv_loadW rfl (enc8_len hg6.1)) rfl ?_
      refine L_x rfl (opx_call0 (Print_spec W hW z.2 hg6.1.1 hg6.1.2) rfl rfl rfl) (fun _ _ => ?_)
      refine L_v (opv_move rfl) rfl ?_
      first
        | refine L_v (opv_neq rfl rfl) rfl ?_
        | refine L_v (opv_neqS rfl rfl) rfl ?_
        | refine L_v (opv_neqNil rfl rfl) rfl ?_
        | refine L_v (opv_neqB rfl rfl) rfl ?_
      refine L_nil ?_
      refine K_then ?_
      refine J_cond rfl (fun h4 => ?_) (fun h4 => ?_)
      · refine J_seq ?_
        refine J_region ?_
        refine L_v (opv_buildA (pl := [(0, 1), (1, 1), (2, 1), (3, 1), (4, 1), (5, 1)]) rfl rfl) rfl ?_
        refine L_x rfl (opx_store rfl rfl rfl (by simp [Value.oneCell'])) (fun _ _ => ?_)
        refine L_v (opv_assign rfl) rfl ?_
        refine L_nil ?_
        refine K_then ?_
        refine J_ret ?_
        refine K_then_ret ?_
        exact K_ret2c rfl rfl rfl rfl () trivial (by rw [parseV_no (no_print hg6 (by assumption))]; rfl) Ent.take
      · refine J_skip ?_
        refine K_then ?_
        refine J_seq ?_
        refine J_region ?_
        refine L_v (opv_loadW rfl (enc8_len hg6.1)) rfl ?_
        refine L_x rfl (opx_storeW (m := 6) rfl rfl (enc8_len hg6.1) (enc8_one _) rfl) (fun _ _ => ?_)
        refine L_v (opv_assign rfl) rfl ?_
        refine L_nil ?_
        refine K_then ?_
        refine J_ret ?_
        exact K_ret2c (m := 6) rfl rfl rfl (enc8_len hg6.1) () trivial (by rw [parseV_yes (yes_print hg6 (by assumption))]; rfl) Ent.take

theorem AddrTexts_spec (W : World) (hW : W.cell? (ad 7 15) = some (.int .u8 4)) (hE : ErrsOk W) (ms : List Nat) (hb : Bys 6 ms) (s : ByteArray) : FSpec Tryd.prog 9 #[ag ms, .string s] (old W) (fun _ : Unit => True) (fun _ => .bool true) (fun _ => old W) := by
  refine FSpec.enter' Tryd.func9 rfl Tryd.ntmps9 rfl fun σ F => ?_
  refine J_seq ?_
  refine J_region ?_
  refine L_x rfl (opx_box (l := ms.map enc8) rfl rfl) (fun b2 _ => ?_)
  refine L_v (opv_assign rfl) rfl ?_
  refine L_nil ?_
  refine K_then ?_
  refine J_seq ?_
  refine J_seq ?_
  refine J_region ?_
  refine L_v (opv_move rfl) rfl ?_
  first
    | refine L_v (opv_lenL rfl) rfl ?_
    | refine L_v (opv_lenS rfl) rfl ?_
  refine L_v (opv_gtr rfl rfl) rfl ?_
  refine L_nil ?_
  refine K_then ?_
  refine J_cond rfl (fun h1 => ?_) (fun h1 => ?_)
  · refine J_seq ?_
    refine J_region ?_
    refine L_x rfl (opx_call0 (awake_spec W hW) rfl rfl rfl) (fun _ _ => ?_)
    refine L_v (opv_assign rfl) rfl ?_
    refine L_nil ?_
    refine K_then ?_
    refine J_ret ?_
    refine K_then_ret ?_
    exact K_ret1 rfl rfl () trivial (rfl) Ent.take
  · have hs : s.size ≤ 100 := by omega
    have hpv := parseV_bys s
    refine J_skip ?_
    refine K_then ?_
    refine J_seq ?_
    refine J_region ?_
    refine L_v (opv_move rfl) rfl ?_
    refine L_x rfl (opx_call0 (Parse_spec W hW hE s hs) rfl rfl rfl) (fun _ _ => ?_)
    refine L_v (opv_move rfl) rfl ?_
    refine L_v (opv_extract (v := ag (parseV s).1) rfl rfl) rfl ?_
    refine L_v (opv_extract (v := .int .i64 (parseV s).2) rfl rfl) rfl ?_
    refine L_x rfl (opx_alloc rfl) (fun b5 _ => ?_)
    refine L_x rfl (opx_storeW (m := 6) rfl rfl (enc8_len hpv) (enc8_one _) rfl) (fun _ _ => ?_)
    refine L_v (opv_assign rfl) rfl ?_
    refine L_nil ?_
    refine K_then ?_
    refine J_seq ?_
    refine J_region ?_
    refine L_v (opv_move rfl) rfl ?_
    refine L_x rfl (opx_call0 (RParse_spec s) rfl rfl rfl) (fun _ _ => ?_)
    refine L_emp ?_
    refine L_v (opv_move rfl) rfl ?_
    refine L_v (opv_extract (v := .string (txe (parseV s))) rfl rfl) rfl ?_
    refine L_v (opv_extract (v := .int .i64 (parseV s).2) rfl rfl) rfl ?_
    refine L_v (opv_assign rfl) rfl ?_
    refine L_v (opv_assign rfl) rfl ?_
    refine L_nil ?_
    refine K_then ?_
    refine J_seq ?_
    refine J_quiet Tryd.mixed (by kernel_rfl) ?_
    refine Q_v (opv_loadW rfl (enc8_len hb)) rfl ?_
    refine Q_call (Print_spec W hW ms hb.1 hb.2) rfl rfl (fun _ _ => rfl) (fun _ _ => Ent.refl _) rfl ?_
    refine Q_v (opv_loadW rfl (enc8_len hb)) rfl ?_
    refine Q_call (text_any hb) rfl rfl (fun _ _ => rfl) (fun _ _ => Ent.refl _) rfl ?_
    refine Q_call (RPrint_spec ms hb) rfl rfl (fun _ _ => rfl) (fun _ _ => Ent.refl _) rfl ?_
    refine Q_v ((opv_eqlS rfl rfl).bool_t rfl) rfl ?_
    refine Q_v (opv_move rfl) rfl ?_
    refine Q_gon rfl rfl rfl ?_
    refine Q_v (opv_loadW rfl (enc8_len hpv)) rfl ?_
    refine Q_gon rfl rfl rfl ?_
    refine Q_v (opv_move rfl) rfl ?_
    refine Q_gon rfl rfl rfl ?_
    refine Q_v (opv_move rfl) rfl ?_
    refine Q_gon rfl rfl rfl ?_
    refine Q_v (opv_move rfl) rfl ?_
    refine Q_gon rfl rfl rfl ?_
    refine Q_call (same_parse s) rfl rfl (fun _ _ => rfl) (fun _ _ => Ent.refl _) rfl ?_
    first
      | refine Q_v (opv_pick_tt rfl rfl) rfl ?_
      | refine Q_v (opv_pick_ff rfl rfl) rfl ?_
      | refine Q_v (opv_pick rfl rfl rfl) rfl ?_
    refine Q_v (opv_move rfl) rfl ?_
    refine Q_gon rfl rfl rfl ?_
    refine Q_call (awake_spec W hW) rfl rfl (fun _ _ => rfl) (fun _ _ => Ent.refl _) rfl ?_
    first
      | refine Q_v (opv_pick_tt rfl rfl) rfl ?_
      | refine Q_v (opv_pick_ff rfl rfl) rfl ?_
      | refine Q_v (opv_pick rfl rfl rfl) rfl ?_
    refine Q_v (opv_assign rfl) rfl ?_
    refine QL_nil ?_
    refine K_then ?_
    refine J_ret ?_
    exact K_ret1 rfl rfl () trivial (rfl) Ent.take

end Go.Proofs.YtkkoepnljofhpaaDoor
