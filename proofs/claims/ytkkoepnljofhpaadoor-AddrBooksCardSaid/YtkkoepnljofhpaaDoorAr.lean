/- Contracts of strings.Split at a colon and of strconv.ParseUint at the base 16 and 8 bits, out of the library's contracts and by walks; they are used by the texts that import this one. -/
import Derived.Test.YtkkoepnljofhpaaDoorAm
import Derived.Test.YtkkoepnljofhpaaDoorW
import Derived.Test.YtkkoepnljofhpaaDoorSh
import Derived.Test.YtkkoepnljofhpaaDoorXc
import Derived.Test.YtkkoepnljofhpaaDoorH
namespace Go.Proofs.YtkkoepnljofhpaaDoor
open Go.SLA
set_option maxRecDepth 100000
set_option linter.unusedVariables false
set_option linter.unusedSimpArgs false
attribute [local irreducible] J L K QL Rg FSpec OpV OpX Rd Back

instance : Conc Tryd.prog 127 := ⟨by kernel_rfl⟩
instance : IfcT Tryd.prog 99 := ⟨by kernel_rfl⟩
/-- The parts of a text between colons. -/
def pieces (s : ByteArray) : List ByteArray := Lib.splitB colon 0 (Lib.countB s colon) s
theorem genSplit_fs (s : ByteArray) (hs : s.size < 4294967281) : FSpec Tryd.prog 54 #[.string s, .string colon, .int .i64 0, .int .i64 (-1)] emp (fun _ : Nat => True) (fun b => .slice (some (ad b 0)) (pieces s).length (pieces s).length) (fun b => cel b ((pieces s).flatMap encS) 9) := by
  unfold FSpec
  intro σ w F hw
  have hle := Lib.countB_le colon (by decide) s.size s (Nat.le_refl _)
  have hlen : (pieces s).length = Lib.countB s colon + 1 := Lib.splitB_all colon (by decide) 0 _ s rfl
  have c := Any.strings_genSplit_core Tryd.lays221 (by kernel_rfl) s colon 0 (-1) (Lib.countB s colon + 1) w hs (by decide) (Nat.zero_le _)
    (fun x c _ => (Tryd.strings_Index_one x 58 _).mono fun e w' ⟨he, hw⟩ => ⟨by rw [he, ← Lib.index_one]; rfl, hw⟩)
    ((Tryd.strings_Count_one s 58 w).mono fun e w' ⟨he, hw⟩ => ⟨by rw [he]; unfold Lib.countByte; rw [← Lib.count_one]; rfl, hw⟩)
    (by decide) (by decide) (by rw [if_pos (by decide)]; omega)
  rw [Nat.add_sub_cancel] at c
  refine c.mono fun e w' ⟨he, hw'⟩ => ⟨w.heap.size, trivial, ?_, ?_⟩
  · rw [he, hlen]
    show Ending.returned (.slice _ (pieces s).length _) = _
    rw [hlen]
  · subst hw'
    have e1 : Lib.cellsOf (pieces s) (Lib.countB s colon + 1) = ((pieces s).map Value.string).toArray := by rw [← hlen]; exact Lib.cellsOf_full _
    have e2 : (pieces s).flatMap encS = (pieces s).map Value.string := by
      generalize pieces s = l
      induction l with
      | nil => rfl
      | cons a l ih => rw [List.flatMap_cons, ih]; rfl
    rw [emp_sep] at hw
    show Sat σ (w.alloc (.cells (Lib.cellsOf (pieces s) (Lib.countB s colon + 1)) _)) _
    rw [e1, e2]
    exact hw.alloc _
theorem rd_at {P : HProp} {σ w : World} {b o : Nat} {v : Value} (h : Rd P b o v) (hw : Sat σ w P) : w.cell? (ad b o) = some v := by
  unfold Rd at h
  exact h σ w hw
theorem toErr_fs (W : World) (fn s : ByteArray) (base bits : Int) (k : Int) (hk : k = 1 ∨ k = 2) (hs : s.size ≤ 281474976710656) (h1 : ∃ ev, W.cell? (ad 1 0) = some ev ∧ (ev = .nilIface ∨ ∃ te pe, ev = .iface te pe)) (h2 : ∃ ev, W.cell? (ad 2 0) = some ev ∧ (ev = .nilIface ∨ ∃ te pe, ev = .iface te pe)) :
    FSpec Tryd.prog 56 #[.string fn, .string s, .int .i64 base, .int .i64 bits, .iface 127 (.int .i64 k)] (old W) (fun _ : Nat => True) (fun N => .iface 129 (.pointer (some (ad N 0)))) (fun _ => old W) := by
  unfold FSpec
  intro σ w F hw
  obtain ⟨e1, g1, t1⟩ := h1
  obtain ⟨e2, g2, t2⟩ := h2
  rcases hk with rfl | rfl
  · refine (Tryd.strconv_toError_range fn s base bits e2 w hs (rd_at (Rd.old (P := (sep (old W) (F))) g2) hw) t2).mono fun e w' ⟨N, he, hN, hc, hb⟩ => ⟨N, trivial, he, hw.same hb.os hb.tape hb.output hb.block⟩
  · refine (Tryd.strconv_toError_syntax fn s base bits e1 w hs (rd_at (Rd.old (P := (sep (old W) (F))) g1) hw) t1).mono fun e w' ⟨N, he, hN, hc, hb⟩ => ⟨N, trivial, he, hw.same hb.os hb.tape hb.output hb.block⟩


/-- Byte i of a text, as a number. -/
def cN (s : ByteArray) (i : Nat) : Nat := (s.data.toList.getD i 0).toNat
theorem cN_lt (s : ByteArray) (i : Nat) : cN s i < 256 := (s.data.toList.getD i 0).toNat_lt
def codes (s : ByteArray) : List Nat := s.data.toList.map UInt8.toNat
theorem codes_len (s : ByteArray) : (codes s).length = s.size := by unfold codes; rw [List.length_map, Array.length_toList]; rfl
theorem codes_drop {s : ByteArray} {i : Nat} (h : i < s.size) : (codes s).drop i = cN s i :: (codes s).drop (i + 1) := by
  have hl : i < (codes s).length := by rw [codes_len]; exact h
  have h' : i < s.data.toList.length := by rw [Array.length_toList]; exact h
  rw [List.drop_eq_getElem_cons hl]
  have e : (codes s)[i] = (s.data.toList[i]).toNat := List.getElem_map (f := UInt8.toNat) (l := s.data.toList)
  rw [e]
  unfold cN
  rw [List.getD_eq_getElem?_getD, List.getElem?_eq_getElem h']
  rfl
theorem rdb {P R : HProp} {b c : Nat} {s : ByteArray} {e : TypeId} {j : Nat} [h : Take P (byb b s c e) R] (hj : j < s.size) : Rd P b (0 + j * 1) (.int .u8 ((cN s j : Nat) : Int)) := by
  rw [Nat.zero_add, Nat.mul_one]
  exact Rd.byb (R := R) (c := c) (e := e) hj
def lowN (c : Nat) : Nat := (BitVec.ofNat 8 c ||| 32#8).toNat
theorem lowN_lt (c : Nat) : lowN c < 256 := (BitVec.ofNat 8 c ||| 32#8).isLt
theorem low_or {c : Nat} : Value.int .u8 (IntKind.u8.wrap ((BitVec.ofInt IntKind.u8.bits ((c : Nat) : Int) ||| BitVec.ofInt IntKind.u8.bits 32).toNat : Int)) = .int .u8 ((lowN c : Nat) : Int) := by
  have := lowN_lt c
  rw [show IntKind.u8.bits = 8 from rfl, BitVec.ofInt_natCast, show BitVec.ofInt 8 32 = 32#8 from rfl]
  show Value.int .u8 (IntKind.u8.wrap ((lowN c : Nat) : Int)) = _
  rw [IntKind.wrap_u8]
  exact congrArg _ (by omega)
/-- What a digit stands for, at any base. -/
def digV (c : Nat) : Option Nat := if 48 ≤ c ∧ c ≤ 57 then some (c - 48) else if 97 ≤ lowN c ∧ lowN c ≤ 122 then some (lowN c - 97 + 10) else none
def puL : List Nat → Nat → Nat × Int
  | [], n => (n, 0)
  | c :: t, n => match digV c with
    | none => (0, 2)
    | some d => if 16 ≤ d then (0, 2) else if 255 < n * 16 + d then (255, 1) else puL t (n * 16 + d)
theorem puL_bad {c : Nat} {t : List Nat} {n : Nat} (h : digV c = none) : puL (c :: t) n = (0, 2) := by unfold puL; rw [h]
theorem puL_big {c d : Nat} {t : List Nat} {n : Nat} (h : digV c = some d) (h1 : 16 ≤ d) : puL (c :: t) n = (0, 2) := by rw [puL, h]; exact if_pos h1
theorem puL_over {c d : Nat} {t : List Nat} {n : Nat} (h : digV c = some d) (h1 : ¬ 16 ≤ d) (h2 : 255 < n * 16 + d) : puL (c :: t) n = (255, 1) := by rw [puL, h]; show ite _ _ _ = _; rw [if_neg h1, if_pos h2]
theorem puL_step {c d : Nat} {t : List Nat} {n : Nat} (h : digV c = some d) (h1 : ¬ 16 ≤ d) (h2 : ¬ 255 < n * 16 + d) : puL (c :: t) n = puL t (n * 16 + d) := by rw [puL, h]; show ite _ _ _ = _; rw [if_neg h1, if_neg h2]
theorem digV_d {c : Nat} (h1 : 48 ≤ c) (h2 : c ≤ 57) : digV c = some (c - 48) := if_pos ⟨h1, h2⟩
theorem digV_l {c : Nat} (h : ¬ 48 ≤ c ∨ ¬ c ≤ 57) (h1 : 97 ≤ lowN c) (h2 : lowN c ≤ 122) : digV c = some (lowN c - 97 + 10) := by unfold digV; rw [if_neg (by omega), if_pos ⟨h1, h2⟩]
theorem digV_n {c : Nat} (h : ¬ 48 ≤ c ∨ ¬ c ≤ 57) (h1 : ¬ 97 ≤ lowN c ∨ ¬ lowN c ≤ 122) : digV c = none := by unfold digV; rw [if_neg (by omega), if_neg (by omega)]
/-- strconv.ParseUint(s, 16, 8): the number, and 0, or 1 (out of range), or 2 (no number). -/
def pu (s : ByteArray) : Nat × Int := if s = ⟨#[]⟩ then (0, 2) else puL (codes s) 0
theorem pu_no {s : ByteArray} (h : s = ⟨#[]⟩) : pu s = (0, 2) := if_pos h
theorem pu_ne {s : ByteArray} (h : ¬ s = ⟨#[]⟩) : pu s = puL (codes s) 0 := if_neg h
def errV (k : Int) : Value := if k = 0 then .nilIface else .iface 127 (.int .i64 k)
theorem puL_err : ∀ (l : List Nat) (n : Nat), (puL l n).2 = 0 ∨ (puL l n).2 = 1 ∨ (puL l n).2 = 2
  | [], n => .inl rfl
  | c :: t, n => by
    unfold puL
    split
    · exact .inr (.inr rfl)
    · split
      · exact .inr (.inr rfl)
      · split
        · exact .inr (.inl rfl)
        · exact puL_err t _
theorem pu_err (s : ByteArray) : (pu s).2 = 0 ∨ (pu s).2 = 1 ∨ (pu s).2 = 2 := by
  unfold pu
  split
  · exact .inr (.inr rfl)
  · exact puL_err _ _

theorem lower_spec (c : Nat) : FSpec Tryd.prog 74 #[.int .u8 (c : Nat)] (emp) (fun _ : Unit => True) (fun _ => .int .u8 ((lowN c : Nat) : Int)) (fun _ => emp) := by
  refine FSpec.enter' Tryd.func74 rfl Tryd.ntmps74 rfl fun σ F => ?_
  refine J_seq ?_
  refine J_region ?_
  refine L_v (opv_assign rfl) rfl ?_
  refine L_nil ?_
  refine K_then ?_
  refine J_seq ?_
  refine J_region ?_
  refine L_v (opv_move rfl) rfl ?_
  refine L_v ((opv_or rfl rfl).as low_or) rfl ?_
  refine L_v (opv_assign rfl) rfl ?_
  refine L_nil ?_
  refine K_then ?_
  refine J_ret ?_
  exact K_ret1 rfl rfl () trivial (rfl) (Ent.refl _)

set_option maxHeartbeats 1000000 in
theorem PuIn_spec (s : ByteArray) (hs : s.size ≤ 1000000) : FSpec Tryd.prog 55 #[.string s, .int .i64 16, .int .i64 8] (emp) (fun _ : Unit => True) (fun _ => .tuple #[.int .u64 ((pu s).1 : Nat), errV (pu s).2]) (fun _ => emp) := by
  refine FSpec.enter' Tryd.func55 rfl Tryd.ntmps55 rfl fun σ F => ?_
  refine J_seq ?_
  refine J_region ?_
  refine L_v (opv_assign rfl) rfl ?_
  refine L_v (opv_assign rfl) rfl ?_
  refine L_nil ?_
  refine K_then ?_
  refine J_seq ?_
  refine J_seq ?_
  refine J_region ?_
  refine L_v (opv_move rfl) rfl ?_
  first
    | refine L_v (opv_eql rfl rfl) rfl ?_
    | refine L_v (opv_eqlS rfl rfl) rfl ?_
    | refine L_v (opv_eqlNil rfl rfl) rfl ?_
    | refine L_v (opv_eqlB rfl rfl) rfl ?_
  refine L_nil ?_
  refine K_then ?_
  refine J_cond rfl (fun h1 => ?_) (fun h1 => ?_)
  · refine J_seq ?_
    refine J_region ?_
    refine L_v (opv_makeIface rfl) rfl ?_
    refine L_v (opv_assign rfl) rfl ?_
    refine L_v (opv_assign rfl) rfl ?_
    refine L_nil ?_
    refine K_then ?_
    refine J_ret ?_
    refine K_then_ret ?_
    exact K_ret2 rfl rfl rfl () trivial (by rw [pu_no h1]; rfl) (Ent.refl _)
  · have hne := h1
    refine J_skip ?_
    refine K_then ?_
    refine J_seq ?_
    refine J_region ?_
    refine L_v (opv_move rfl) rfl ?_
    refine L_v ((opv_eql rfl rfl).bool_f (by decide)) rfl ?_
    refine L_v (opv_assign rfl) rfl ?_
    refine L_nil ?_
    refine K_then ?_
    refine J_seq ?_
    refine J_region ?_
    refine L_v (opv_move rfl) rfl ?_
    refine L_v (opv_assign rfl) rfl ?_
    refine L_nil ?_
    refine K_then ?_
    refine J_seq ?_
    refine J_block ?_
    refine J_seq ?_
    refine J_region ?_
    refine L_v (opv_move rfl) rfl ?_
    refine L_v ((opv_leq rfl rfl).bool_t (by decide)) rfl ?_
    refine L_v (opv_move rfl) rfl ?_
    refine L_gon rfl rfl rfl ?_
    refine L_v (opv_move rfl) rfl ?_
    refine L_gon rfl rfl rfl ?_
    refine L_v ((opv_leq rfl rfl).bool_t (by decide)) rfl ?_
    first
      | refine L_v (opv_pick_tt rfl rfl) rfl ?_
      | refine L_v (opv_pick_ff rfl rfl) rfl ?_
      | refine L_v (opv_pick rfl rfl rfl) rfl ?_
    refine L_v (opv_assign rfl) rfl ?_
    refine L_nil ?_
    refine K_then ?_
    refine J_cond_true rfl ?_
    refine J_skip ?_
    refine K_block ?_
    refine K_then ?_
    refine J_seq ?_
    refine J_seq ?_
    refine J_region ?_
    refine L_v (opv_move rfl) rfl ?_
    refine L_v ((opv_eql rfl rfl).bool_f (by decide)) rfl ?_
    refine L_nil ?_
    refine K_then ?_
    refine J_cond_false rfl ?_
    refine J_seq ?_
    refine J_region ?_
    refine L_v (opv_move rfl) rfl ?_
    refine L_v ((opv_lss rfl rfl).bool_f (by decide)) rfl ?_
    refine L_v (opv_move rfl) rfl ?_
    refine L_gon rfl rfl rfl ?_
    refine L_v (opv_move rfl) rfl ?_
    refine L_gon rfl rfl rfl ?_
    refine L_v ((opv_gtr rfl rfl).bool_f (by decide)) rfl ?_
    first
      | refine L_v (opv_pick_tt rfl rfl) rfl ?_
      | refine L_v (opv_pick_ff rfl rfl) rfl ?_
      | refine L_v (opv_pick rfl rfl rfl) rfl ?_
    refine L_nil ?_
    refine K_then ?_
    refine J_cond_false rfl ?_
    refine J_skip ?_
    refine K_then ?_
    refine J_seq ?_
    refine J_region ?_
    refine L_v (opv_assign rfl) rfl ?_
    refine L_nil ?_
    refine K_then ?_
    refine J_seq ?_
    refine J_seq ?_
    refine J_region ?_
    refine L_v (opv_move rfl) rfl ?_
    refine L_nil ?_
    refine K_then ?_
    refine J_block ?_
    refine J_seq ?_
    refine J_region ?_
    refine L_v ((opv_eql rfl rfl).bool_f (by decide)) rfl ?_
    refine L_v (opv_assign rfl) rfl ?_
    refine L_nil ?_
    refine K_then ?_
    refine J_cond_false rfl ?_
    refine J_seq ?_
    refine J_region ?_
    refine L_v ((opv_eql rfl rfl).bool_t (by decide)) rfl ?_
    refine L_v (opv_assign rfl) rfl ?_
    refine L_nil ?_
    refine K_then ?_
    refine J_cond_true rfl ?_
    refine J_region ?_
    refine L_v (opv_assign rfl) rfl ?_
    refine L_nil ?_
    refine K_block ?_
    refine K_then ?_
    refine J_seq ?_
    refine J_region ?_
    refine L_v (opv_move rfl) rfl ?_
    refine L_v ((opv_convert rfl).as (v' := .int .u64 8) (congrArg _ (by decide))) rfl ?_
    refine L_v ((opv_shl rfl rfl (by decide)).as (v' := .int .u64 256) (congrArg _ (by decide))) rfl ?_
    refine L_v ((opv_sub rfl rfl).as (v' := .int .u64 255) (congrArg _ (by decide))) rfl ?_
    refine L_v (opv_assign rfl) rfl ?_
    refine L_nil ?_
    refine K_then ?_
    refine J_seq ?_
    refine J_region ?_
    refine L_v (opv_assign rfl) rfl ?_
    refine L_nil ?_
    refine K_then ?_
    refine J_seq ?_
    refine J_region ?_
    refine L_v (opv_assign rfl) rfl ?_
    refine L_nil ?_
    refine K_then ?_
    refine J_seq ?_
    refine J_seq ?_
    refine J_region ?_
    refine L_v (opv_move rfl) rfl ?_
    refine L_x rfl (opx_s2b rfl rfl) (fun y99 _ => ?_)
    first
      | refine L_v (opv_lenL rfl) rfl ?_
      | refine L_v (opv_lenS rfl) rfl ?_
    refine L_v (opv_move rfl) rfl ?_
    refine L_nil ?_
    refine K_then ?_
    refine J_block ?_
    refine J_loop (X := Nat × Nat) (fun z => [(1, .int .i64 16), (8, .bool false), (10, .int .u64 1152921504606846976), (11, .int .u64 255), (12, .bool false), (13, .int .u64 (z.2 : Nat)), (99, .slice (some (ad y99.1 0)) s.size y99.2), (100, .int .i64 s.size), (101, .int .i64 z.1)]) (fun z => (sep (byb y99.1 s y99.2 5) (F))) (fun z => z.1 ≤ s.size ∧ z.2 ≤ 255 ∧ puL (codes s) 0 = puL ((codes s).drop z.1) z.2) (fun z => s.size - z.1) ((0, 0)) ⟨Nat.zero_le _, by decide, rfl⟩ ⟨rfl, rfl, rfl, rfl, rfl, rfl, rfl, rfl, rfl, trivial⟩ Ent.take (fun z hz => ?_)
    refine J_seq ?_
    refine J_region ?_
    refine L_v (opv_lss rfl rfl) rfl ?_
    refine L_nil ?_
    refine K_then ?_
    refine J_seq ?_
    refine J_cond rfl (fun h2 => ?_) (fun h2 => ?_)
    · have hlt : z.1 < s.size := by omega
      have hc := cN_lt s z.1
      have hl := lowN_lt (cN s z.1)
      have hz1 := hz.1
      have hz2 := hz.2.1
      refine J_skip ?_
      refine K_then ?_
      refine J_seq ?_
      refine J_block ?_
      refine J_seq ?_
      refine J_region ?_
      refine L_v ((opv_indexAddr rfl rfl (by omega))) rfl ?_
      refine L_v ((opv_load (v := .int .u8 ((cN s z.1 : Nat) : Int)) rfl (rdb (b := y99.1) (c := y99.2) (e := 5) hlt))) rfl ?_
      refine L_v (opv_assign rfl) rfl ?_
      refine L_nil ?_
      refine K_then ?_
      refine J_seq ?_
      refine J_region ?_
      refine L_v (opv_assign rfl) rfl ?_
      refine L_nil ?_
      refine K_then ?_
      refine J_cut (X := Nat) (fun d => [(1, .int .i64 16), (8, .bool false), (10, .int .u64 1152921504606846976), (11, .int .u64 255), (12, .bool false), (13, .int .u64 (z.2 : Nat)), (99, .slice (some (ad y99.1 0)) s.size y99.2), (100, .int .i64 s.size), (101, .int .i64 z.1), (16, .int .u8 (d : Nat))]) (fun d => (sep (byb y99.1 s y99.2 5) (F))) (fun d => digV (cN s z.1) = some d ∧ d < 256) ?_ (fun d hd => ?_)
      · refine J_block ?_
        refine J_seq ?_
        refine J_region ?_
        refine L_v (opv_move rfl) rfl ?_
        first
          | refine L_v (opv_eql rfl rfl) rfl ?_
          | refine L_v (opv_eqlS rfl rfl) rfl ?_
          | refine L_v (opv_eqlNil rfl rfl) rfl ?_
          | refine L_v (opv_eqlB rfl rfl) rfl ?_
        refine L_v (opv_move rfl) rfl ?_
        refine L_gt rfl rfl (fun h3 => ?_) (fun h3 => ?_) (fun _ h => by cases h; rfl)
        · refine L_v (opv_move rfl) rfl ?_
          refine L_v (opv_pick_t rfl h3 rfl) rfl ?_
          refine L_v (opv_assign rfl) rfl ?_
          refine L_nil ?_
          refine K_then ?_
          refine J_cond_false rfl ?_
          refine J_seq ?_
          refine J_region ?_
          refine L_v (opv_move rfl) rfl ?_
          refine L_v (opv_leq rfl rfl) rfl ?_
          refine L_v (opv_move rfl) rfl ?_
          refine L_gt rfl rfl (fun h4 => ?_) (fun h4 => ?_) (fun _ h => by cases h; rfl)
          · refine L_v (opv_move rfl) rfl ?_
            refine L_gt_on h4 rfl rfl ?_
            refine L_v (opv_leq rfl rfl) rfl ?_
            refine L_v (opv_pick_t rfl h4 rfl) rfl ?_
            refine L_v (opv_assign rfl) rfl ?_
            refine L_nil ?_
            refine K_then ?_
            refine J_cond rfl (fun h5 => ?_) (fun h5 => ?_)
            · refine J_region ?_
              refine L_v (opv_move rfl) rfl ?_
              refine L_v ((opv_subW rfl rfl (Go.IntWalk.u8_in _ (by omega))).as (v' := .int .u8 ((cN s z.1 - 48 : Nat) : Int)) (congrArg _ (by omega))) rfl ?_
              refine L_v (opv_assign rfl) rfl ?_
              refine L_nil ?_
              refine K_block ?_
              exact K_cut (cN s z.1 - 48) ⟨digV_d (by omega) (by omega), by omega⟩ ⟨rfl, rfl, rfl, rfl, rfl, rfl, rfl, rfl, rfl, rfl, trivial⟩ Ent.take
            · refine J_seq ?_
              refine J_region ?_
              refine L_v (opv_move rfl) rfl ?_
              refine L_x rfl (opx_call0 (lower_spec (cN s z.1)) rfl rfl rfl) (fun _ _ => ?_)
              refine L_emp ?_
              refine L_v (opv_leq rfl rfl) rfl ?_
              refine L_v (opv_move rfl) rfl ?_
              refine L_gt rfl rfl (fun h6 => ?_) (fun h6 => ?_) (fun _ h => by cases h; rfl)
              · refine L_v (opv_move rfl) rfl ?_
                refine L_gt_on h6 rfl rfl ?_
                refine L_x rfl (opx_call0 (lower_spec (cN s z.1)) rfl rfl rfl) (fun _ _ => ?_)
                refine L_emp ?_
                refine L_gt_on h6 rfl rfl ?_
                refine L_v (opv_leq rfl rfl) rfl ?_
                refine L_v (opv_pick_t rfl h6 rfl) rfl ?_
                refine L_v (opv_assign rfl) rfl ?_
                refine L_nil ?_
                refine K_then ?_
                refine J_cond rfl (fun h7 => ?_) (fun h7 => ?_)
                · refine J_region ?_
                  refine L_v (opv_move rfl) rfl ?_
                  refine L_x rfl (opx_call0 (lower_spec (cN s z.1)) rfl rfl rfl) (fun _ _ => ?_)
                  refine L_emp ?_
                  refine L_v ((opv_subW rfl rfl (Go.IntWalk.u8_in _ (by omega)))) rfl ?_
                  refine L_v ((opv_addW rfl rfl (Go.IntWalk.u8_in _ (by omega))).as (v' := .int .u8 ((lowN (cN s z.1) - 97 + 10 : Nat) : Int)) (congrArg _ (by omega))) rfl ?_
                  refine L_v (opv_assign rfl) rfl ?_
                  refine L_nil ?_
                  refine K_block ?_
                  exact K_cut (lowN (cN s z.1) - 97 + 10) ⟨digV_l (by omega) (by omega) (by omega), by omega⟩ ⟨rfl, rfl, rfl, rfl, rfl, rfl, rfl, rfl, rfl, rfl, trivial⟩ Ent.take
                · refine J_seq ?_
                  refine J_region ?_
                  refine L_v (opv_makeIface rfl) rfl ?_
                  refine L_v (opv_assign rfl) rfl ?_
                  refine L_v (opv_assign rfl) rfl ?_
                  refine L_nil ?_
                  refine K_then ?_
                  refine J_ret ?_
                  refine K_block_ret ?_
                  refine K_then_ret ?_
                  refine K_block_ret ?_
                  refine K_then_ret ?_
                  refine K_then_ret ?_
                  refine K_block_ret ?_
                  refine K_then_ret ?_
                  exact K_ret2 rfl rfl rfl () trivial (by rw [pu_ne hne, hz.2.2, codes_drop hlt, puL_bad (digV_n (by omega) (by omega))]; rfl) Ent.take
              · refine L_gt_off h6 rfl rfl ?_ (fun _ h => by cases h; rfl)
                refine L_gt_off h6 rfl rfl ?_ (fun _ h => by cases h; rfl)
                refine L_v (opv_pick_f rfl h6 rfl) rfl ?_
                refine L_v (opv_assign rfl) rfl ?_
                refine L_nil ?_
                refine K_then ?_
                refine J_cond_false rfl ?_
                refine J_seq ?_
                refine J_region ?_
                refine L_v (opv_makeIface rfl) rfl ?_
                refine L_v (opv_assign rfl) rfl ?_
                refine L_v (opv_assign rfl) rfl ?_
                refine L_nil ?_
                refine K_then ?_
                refine J_ret ?_
                refine K_block_ret ?_
                refine K_then_ret ?_
                refine K_block_ret ?_
                refine K_then_ret ?_
                refine K_then_ret ?_
                refine K_block_ret ?_
                refine K_then_ret ?_
                exact K_ret2 rfl rfl rfl () trivial (by rw [pu_ne hne, hz.2.2, codes_drop hlt, puL_bad (digV_n (by omega) (by omega))]; rfl) Ent.take
          · refine L_gt_off h4 rfl rfl ?_ (fun _ h => by cases h; rfl)
            refine L_v (opv_pick_f rfl h4 rfl) rfl ?_
            refine L_v (opv_assign rfl) rfl ?_
            refine L_nil ?_
            refine K_then ?_
            refine J_cond_false rfl ?_
            refine J_seq ?_
            refine J_region ?_
            refine L_v (opv_move rfl) rfl ?_
            refine L_x rfl (opx_call0 (lower_spec (cN s z.1)) rfl rfl rfl) (fun _ _ => ?_)
            refine L_emp ?_
            refine L_v (opv_leq rfl rfl) rfl ?_
            refine L_v (opv_move rfl) rfl ?_
            refine L_gt rfl rfl (fun h8 => ?_) (fun h8 => ?_) (fun _ h => by cases h; rfl)
            · refine L_v (opv_move rfl) rfl ?_
              refine L_gt_on h8 rfl rfl ?_
              refine L_x rfl (opx_call0 (lower_spec (cN s z.1)) rfl rfl rfl) (fun _ _ => ?_)
              refine L_emp ?_
              refine L_gt_on h8 rfl rfl ?_
              refine L_v (opv_leq rfl rfl) rfl ?_
              refine L_v (opv_pick_t rfl h8 rfl) rfl ?_
              refine L_v (opv_assign rfl) rfl ?_
              refine L_nil ?_
              refine K_then ?_
              refine J_cond rfl (fun h9 => ?_) (fun h9 => ?_)
              · refine J_region ?_
                refine L_v (opv_move rfl) rfl ?_
                refine L_x rfl (opx_call0 (lower_spec (cN s z.1)) rfl rfl rfl) (fun _ _ => ?_)
                refine L_emp ?_
                refine L_v ((opv_subW rfl rfl (Go.IntWalk.u8_in _ (by omega)))) rfl ?_
                refine L_v ((opv_addW rfl rfl (Go.IntWalk.u8_in _ (by omega))).as (v' := .int .u8 ((lowN (cN s z.1) - 97 + 10 : Nat) : Int)) (congrArg _ (by omega))) rfl ?_
                refine L_v (opv_assign rfl) rfl ?_
                refine L_nil ?_
                refine K_block ?_
                exact K_cut (lowN (cN s z.1) - 97 + 10) ⟨digV_l (by omega) (by omega) (by omega), by omega⟩ ⟨rfl, rfl, rfl, rfl, rfl, rfl, rfl, rfl, rfl, rfl, trivial⟩ Ent.take
              · refine J_seq ?_
                refine J_region ?_
                refine L_v (opv_makeIface rfl) rfl ?_
                refine L_v (opv_assign rfl) rfl ?_
                refine L_v (opv_assign rfl) rfl ?_
                refine L_nil ?_
                refine K_then ?_
                refine J_ret ?_
                refine K_block_ret ?_
                refine K_then_ret ?_
                refine K_block_ret ?_
                refine K_then_ret ?_
                refine K_then_ret ?_
                refine K_block_ret ?_
                refine K_then_ret ?_
                exact K_ret2 rfl rfl rfl () trivial (by rw [pu_ne hne, hz.2.2, codes_drop hlt, puL_bad (digV_n (by omega) (by omega))]; rfl) Ent.take
            · refine L_gt_off h8 rfl rfl ?_ (fun _ h => by cases h; rfl)
              refine L_gt_off h8 rfl rfl ?_ (fun _ h => by cases h; rfl)
              refine L_v (opv_pick_f rfl h8 rfl) rfl ?_
              refine L_v (opv_assign rfl) rfl ?_
              refine L_nil ?_
              refine K_then ?_
              refine J_cond_false rfl ?_
              refine J_seq ?_
              refine J_region ?_
              refine L_v (opv_makeIface rfl) rfl ?_
              refine L_v (opv_assign rfl) rfl ?_
              refine L_v (opv_assign rfl) rfl ?_
              refine L_nil ?_
              refine K_then ?_
              refine J_ret ?_
              refine K_block_ret ?_
              refine K_then_ret ?_
              refine K_block_ret ?_
              refine K_then_ret ?_
              refine K_then_ret ?_
              refine K_block_ret ?_
              refine K_then_ret ?_
              exact K_ret2 rfl rfl rfl () trivial (by rw [pu_ne hne, hz.2.2, codes_drop hlt, puL_bad (digV_n (by omega) (by omega))]; rfl) Ent.take
        · refine L_v (opv_pick_f rfl h3 rfl) rfl ?_
          refine L_v (opv_assign rfl) rfl ?_
          refine L_nil ?_
          refine K_then ?_
          refine J_cond_false rfl ?_
          refine J_seq ?_
          refine J_region ?_
          refine L_v (opv_move rfl) rfl ?_
          refine L_v (opv_leq rfl rfl) rfl ?_
          refine L_v (opv_move rfl) rfl ?_
          refine L_gt rfl rfl (fun h10 => ?_) (fun h10 => ?_) (fun _ h => by cases h; rfl)
          · refine L_v (opv_move rfl) rfl ?_
            refine L_gt_on h10 rfl rfl ?_
            refine L_v (opv_leq rfl rfl) rfl ?_
            refine L_v (opv_pick_t rfl h10 rfl) rfl ?_
            refine L_v (opv_assign rfl) rfl ?_
            refine L_nil ?_
            refine K_then ?_
            refine J_cond rfl (fun h11 => ?_) (fun h11 => ?_)
            · refine J_region ?_
              refine L_v (opv_move rfl) rfl ?_
              refine L_v ((opv_subW rfl rfl (Go.IntWalk.u8_in _ (by omega))).as (v' := .int .u8 ((cN s z.1 - 48 : Nat) : Int)) (congrArg _ (by omega))) rfl ?_
              refine L_v (opv_assign rfl) rfl ?_
              refine L_nil ?_
              refine K_block ?_
              exact K_cut (cN s z.1 - 48) ⟨digV_d (by omega) (by omega), by omega⟩ ⟨rfl, rfl, rfl, rfl, rfl, rfl, rfl, rfl, rfl, rfl, trivial⟩ Ent.take
            · refine J_seq ?_
              refine J_region ?_
              refine L_v (opv_move rfl) rfl ?_
              refine L_x rfl (opx_call0 (lower_spec (cN s z.1)) rfl rfl rfl) (fun _ _ => ?_)
              refine L_emp ?_
              refine L_v (opv_leq rfl rfl) rfl ?_
              refine L_v (opv_move rfl) rfl ?_
              refine L_gt rfl rfl (fun h12 => ?_) (fun h12 => ?_) (fun _ h => by cases h; rfl)
              · refine L_v (opv_move rfl) rfl ?_
                refine L_gt_on h12 rfl rfl ?_
                refine L_x rfl (opx_call0 (lower_spec (cN s z.1)) rfl rfl rfl) (fun _ _ => ?_)
                refine L_emp ?_
                refine L_gt_on h12 rfl rfl ?_
                refine L_v (opv_leq rfl rfl) rfl ?_
                refine L_v (opv_pick_t rfl h12 rfl) rfl ?_
                refine L_v (opv_assign rfl) rfl ?_
                refine L_nil ?_
                refine K_then ?_
                refine J_cond rfl (fun h13 => ?_) (fun h13 => ?_)
                · refine J_region ?_
                  refine L_v (opv_move rfl) rfl ?_
                  refine L_x rfl (opx_call0 (lower_spec (cN s z.1)) rfl rfl rfl) (fun _ _ => ?_)
                  refine L_emp ?_
                  refine L_v ((opv_subW rfl rfl (Go.IntWalk.u8_in _ (by omega)))) rfl ?_
                  refine L_v ((opv_addW rfl rfl (Go.IntWalk.u8_in _ (by omega))).as (v' := .int .u8 ((lowN (cN s z.1) - 97 + 10 : Nat) : Int)) (congrArg _ (by omega))) rfl ?_
                  refine L_v (opv_assign rfl) rfl ?_
                  refine L_nil ?_
                  refine K_block ?_
                  exact K_cut (lowN (cN s z.1) - 97 + 10) ⟨digV_l (by omega) (by omega) (by omega), by omega⟩ ⟨rfl, rfl, rfl, rfl, rfl, rfl, rfl, rfl, rfl, rfl, trivial⟩ Ent.take
                · refine J_seq ?_
                  refine J_region ?_
                  refine L_v (opv_makeIface rfl) rfl ?_
                  refine L_v (opv_assign rfl) rfl ?_
                  refine L_v (opv_assign rfl) rfl ?_
                  refine L_nil ?_
                  refine K_then ?_
                  refine J_ret ?_
                  refine K_block_ret ?_
                  refine K_then_ret ?_
                  refine K_block_ret ?_
                  refine K_then_ret ?_
                  refine K_then_ret ?_
                  refine K_block_ret ?_
                  refine K_then_ret ?_
                  exact K_ret2 rfl rfl rfl () trivial (by rw [pu_ne hne, hz.2.2, codes_drop hlt, puL_bad (digV_n (by omega) (by omega))]; rfl) Ent.take
              · refine L_gt_off h12 rfl rfl ?_ (fun _ h => by cases h; rfl)
                refine L_gt_off h12 rfl rfl ?_ (fun _ h => by cases h; rfl)
                refine L_v (opv_pick_f rfl h12 rfl) rfl ?_
                refine L_v (opv_assign rfl) rfl ?_
                refine L_nil ?_
                refine K_then ?_
                refine J_cond_false rfl ?_
                refine J_seq ?_
                refine J_region ?_
                refine L_v (opv_makeIface rfl) rfl ?_
                refine L_v (opv_assign rfl) rfl ?_
                refine L_v (opv_assign rfl) rfl ?_
                refine L_nil ?_
                refine K_then ?_
                refine J_ret ?_
                refine K_block_ret ?_
                refine K_then_ret ?_
                refine K_block_ret ?_
                refine K_then_ret ?_
                refine K_then_ret ?_
                refine K_block_ret ?_
                refine K_then_ret ?_
                exact K_ret2 rfl rfl rfl () trivial (by rw [pu_ne hne, hz.2.2, codes_drop hlt, puL_bad (digV_n (by omega) (by omega))]; rfl) Ent.take
          · refine L_gt_off h10 rfl rfl ?_ (fun _ h => by cases h; rfl)
            refine L_v (opv_pick_f rfl h10 rfl) rfl ?_
            refine L_v (opv_assign rfl) rfl ?_
            refine L_nil ?_
            refine K_then ?_
            refine J_cond_false rfl ?_
            refine J_seq ?_
            refine J_region ?_
            refine L_v (opv_move rfl) rfl ?_
            refine L_x rfl (opx_call0 (lower_spec (cN s z.1)) rfl rfl rfl) (fun _ _ => ?_)
            refine L_emp ?_
            refine L_v (opv_leq rfl rfl) rfl ?_
            refine L_v (opv_move rfl) rfl ?_
            refine L_gt rfl rfl (fun h14 => ?_) (fun h14 => ?_) (fun _ h => by cases h; rfl)
            · refine L_v (opv_move rfl) rfl ?_
              refine L_gt_on h14 rfl rfl ?_
              refine L_x rfl (opx_call0 (lower_spec (cN s z.1)) rfl rfl rfl) (fun _ _ => ?_)
              refine L_emp ?_
              refine L_gt_on h14 rfl rfl ?_
              refine L_v (opv_leq rfl rfl) rfl ?_
              refine L_v (opv_pick_t rfl h14 rfl) rfl ?_
              refine L_v (opv_assign rfl) rfl ?_
              refine L_nil ?_
              refine K_then ?_
              refine J_cond rfl (fun h15 => ?_) (fun h15 => ?_)
              · refine J_region ?_
                refine L_v (opv_move rfl) rfl ?_
                refine L_x rfl (opx_call0 (lower_spec (cN s z.1)) rfl rfl rfl) (fun _ _ => ?_)
                refine L_emp ?_
                refine L_v ((opv_subW rfl rfl (Go.IntWalk.u8_in _ (by omega)))) rfl ?_
                refine L_v ((opv_addW rfl rfl (Go.IntWalk.u8_in _ (by omega))).as (v' := .int .u8 ((lowN (cN s z.1) - 97 + 10 : Nat) : Int)) (congrArg _ (by omega))) rfl ?_
                refine L_v (opv_assign rfl) rfl ?_
                refine L_nil ?_
                refine K_block ?_
                exact K_cut (lowN (cN s z.1) - 97 + 10) ⟨digV_l (by omega) (by omega) (by omega), by omega⟩ ⟨rfl, rfl, rfl, rfl, rfl, rfl, rfl, rfl, rfl, rfl, trivial⟩ Ent.take
              · refine J_seq ?_
                refine J_region ?_
                refine L_v (opv_makeIface rfl) rfl ?_
                refine L_v (opv_assign rfl) rfl ?_
                refine L_v (opv_assign rfl) rfl ?_
                refine L_nil ?_
                refine K_then ?_
                refine J_ret ?_
                refine K_block_ret ?_
                refine K_then_ret ?_
                refine K_block_ret ?_
                refine K_then_ret ?_
                refine K_then_ret ?_
                refine K_block_ret ?_
                refine K_then_ret ?_
                exact K_ret2 rfl rfl rfl () trivial (by rw [pu_ne hne, hz.2.2, codes_drop hlt, puL_bad (digV_n (by omega) (by omega))]; rfl) Ent.take
            · refine L_gt_off h14 rfl rfl ?_ (fun _ h => by cases h; rfl)
              refine L_gt_off h14 rfl rfl ?_ (fun _ h => by cases h; rfl)
              refine L_v (opv_pick_f rfl h14 rfl) rfl ?_
              refine L_v (opv_assign rfl) rfl ?_
              refine L_nil ?_
              refine K_then ?_
              refine J_cond_false rfl ?_
              refine J_seq ?_
              refine J_region ?_
              refine L_v (opv_makeIface rfl) rfl ?_
              refine L_v (opv_assign rfl) rfl ?_
              refine L_v (opv_assign rfl) rfl ?_
              refine L_nil ?_
              refine K_then ?_
              refine J_ret ?_
              refine K_block_ret ?_
              refine K_then_ret ?_
              refine K_block_ret ?_
              refine K_then_ret ?_
              refine K_then_ret ?_
              refine K_block_ret ?_
              refine K_then_ret ?_
              exact K_ret2 rfl rfl rfl () trivial (by rw [pu_ne hne, hz.2.2, codes_drop hlt, puL_bad (digV_n (by omega) (by omega))]; rfl) Ent.take
      · refine J_seq ?_
        refine J_seq ?_
        refine J_region ?_
        refine L_v (opv_move rfl) rfl ?_
        refine L_v (opv_move rfl) rfl ?_
        refine L_v (opv_convW rfl (Go.IntWalk.u8_in _ (by omega))) rfl ?_
        refine L_v (opv_geq rfl rfl) rfl ?_
        refine L_nil ?_
        refine K_then ?_
        refine J_cond rfl (fun h16 => ?_) (fun h16 => ?_)
        · refine J_seq ?_
          refine J_region ?_
          refine L_v (opv_makeIface rfl) rfl ?_
          refine L_v (opv_assign rfl) rfl ?_
          refine L_v (opv_assign rfl) rfl ?_
          refine L_nil ?_
          refine K_then ?_
          refine J_ret ?_
          refine K_then_ret ?_
          refine K_block_ret ?_
          refine K_then_ret ?_
          refine K_then_ret ?_
          refine K_block_ret ?_
          refine K_then_ret ?_
          exact K_ret2 rfl rfl rfl () trivial (by rw [pu_ne hne, hz.2.2, codes_drop hlt, puL_big hd.1 (by omega)]; rfl) Ent.take
        · refine J_skip ?_
          refine K_then ?_
          refine J_seq ?_
          refine J_seq ?_
          refine J_region ?_
          refine L_v (opv_move rfl) rfl ?_
          refine L_v (opv_move rfl) rfl ?_
          refine L_v ((opv_geq rfl rfl).bool_f (by omega)) rfl ?_
          refine L_nil ?_
          refine K_then ?_
          refine J_cond_false rfl ?_
          refine J_skip ?_
          refine K_then ?_
          refine J_seq ?_
          refine J_region ?_
          refine L_v (opv_move rfl) rfl ?_
          refine L_v (opv_move rfl) rfl ?_
          refine L_v (opv_convW rfl (Go.IntWalk.u64_in _ (by omega))) rfl ?_
          refine L_v ((opv_mulW rfl rfl (Go.IntWalk.u64_in _ (by omega))).as (v' := .int .u64 ((z.2 * 16 : Nat) : Int)) (congrArg _ (by omega))) rfl ?_
          refine L_v (opv_assign rfl) rfl ?_
          refine L_nil ?_
          refine K_then ?_
          refine J_seq ?_
          refine J_region ?_
          refine L_v (opv_move rfl) rfl ?_
          refine L_v (opv_move rfl) rfl ?_
          refine L_v (opv_convW rfl (Go.IntWalk.u64_in _ (by omega))) rfl ?_
          refine L_v ((opv_addW rfl rfl (Go.IntWalk.u64_in _ (by omega))).as (v' := .int .u64 ((z.2 * 16 + d : Nat) : Int)) (congrArg _ (by omega))) rfl ?_
          refine L_v (opv_assign rfl) rfl ?_
          refine L_nil ?_
          refine K_then ?_
          refine J_seq ?_
          refine J_seq ?_
          refine J_region ?_
          refine L_v (opv_move rfl) rfl ?_
          refine L_v (opv_move rfl) rfl ?_
          refine L_v ((opv_lss rfl rfl).bool_f (by omega)) rfl ?_
          refine L_v (opv_move rfl) rfl ?_
          refine L_gon rfl rfl rfl ?_
          refine L_v (opv_move rfl) rfl ?_
          refine L_gon rfl rfl rfl ?_
          refine L_v (opv_move rfl) rfl ?_
          refine L_gon rfl rfl rfl ?_
          refine L_v (opv_gtr rfl rfl) rfl ?_
          first
            | refine L_v (opv_pick_tt rfl rfl) rfl ?_
            | refine L_v (opv_pick_ff rfl rfl) rfl ?_
            | refine L_v (opv_pick rfl rfl rfl) rfl ?_
          refine L_nil ?_
          refine K_then ?_
          refine J_cond rfl (fun h17 => ?_) (fun h17 => ?_)
          · refine J_seq ?_
            refine J_region ?_
            refine L_v (opv_move rfl) rfl ?_
            refine L_v (opv_makeIface rfl) rfl ?_
            refine L_v (opv_assign rfl) rfl ?_
            refine L_v (opv_assign rfl) rfl ?_
            refine L_nil ?_
            refine K_then ?_
            refine J_ret ?_
            refine K_then_ret ?_
            refine K_block_ret ?_
            refine K_then_ret ?_
            refine K_then_ret ?_
            refine K_block_ret ?_
            refine K_then_ret ?_
            exact K_ret2 rfl rfl rfl () trivial (by rw [pu_ne hne, hz.2.2, codes_drop hlt, puL_over hd.1 (by omega) (by omega)]; rfl) Ent.take
          · refine J_skip ?_
            refine K_then ?_
            refine J_region ?_
            refine L_v (opv_move rfl) rfl ?_
            refine L_v (opv_assign rfl) rfl ?_
            refine L_nil ?_
            refine K_block ?_
            refine K_then ?_
            refine J_region ?_
            first
              | refine L_v (opv_add64 rfl rfl (by omega)) rfl ?_
              | refine L_v (opv_addS rfl rfl (by omega)) rfl ?_
              | refine L_v (opv_add rfl rfl) rfl ?_
            refine L_v (opv_move rfl) rfl ?_
            refine L_nil ?_
            exact K_loop ((z.1 + 1, z.2 * 16 + d)) ⟨by show z.1 + 1 ≤ _; omega, by show z.2 * 16 + d ≤ 255; omega, by rw [hz.2.2, codes_drop hlt, puL_step hd.1 (by omega) (by omega)]⟩ (by show _ - (z.1 + 1) < _; omega) ⟨rfl, rfl, rfl, rfl, rfl, rfl, rfl, rfl, rfl, trivial⟩ Ent.take
    · have hz1 := hz.1
      refine J_exit ?_
      refine K_then_exit ?_
      refine K_then_exit ?_
      refine K_block_here ?_
      refine K_then ?_
      refine J_seq ?_
      refine J_seq ?_
      refine J_region ?_
      refine L_v (opv_move rfl) rfl ?_
      refine L_v (opv_move rfl) rfl ?_
      refine L_gskip rfl rfl rfl ?_ (fun _ h => by cases h; rfl)
      refine L_gskip rfl rfl rfl ?_ (fun _ h => by cases h; rfl)
      refine L_gskip rfl rfl rfl ?_ (fun _ h => by cases h; rfl)
      first
        | refine L_v (opv_pick_tt rfl rfl) rfl ?_
        | refine L_v (opv_pick_ff rfl rfl) rfl ?_
        | refine L_v (opv_pick rfl rfl rfl) rfl ?_
      refine L_nil ?_
      refine K_then ?_
      refine J_cond_false rfl ?_
      refine J_skip ?_
      refine K_then ?_
      refine J_seq ?_
      refine J_region ?_
      refine L_v (opv_move rfl) rfl ?_
      refine L_v (opv_assign rfl) rfl ?_
      refine L_v (opv_assign rfl) rfl ?_
      refine L_nil ?_
      refine K_then ?_
      refine J_ret ?_
      exact K_ret2 rfl rfl rfl () trivial (by rw [pu_ne hne, hz.2.2, List.drop_eq_nil_of_le (by rw [codes_len]; omega)]; rfl) Ent.take

end Go.Proofs.YtkkoepnljofhpaaDoor
