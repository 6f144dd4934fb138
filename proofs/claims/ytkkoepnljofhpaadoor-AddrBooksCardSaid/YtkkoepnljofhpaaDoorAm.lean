/- Contracts of what tells addresses, at whatever bytes, of the program and of the document; they are used by the texts that import this one. -/
import Derived.Test.YtkkoepnljofhpaaDoorAk
import Derived.Test.YtkkoepnljofhpaaDoorH
namespace Go.Proofs.YtkkoepnljofhpaaDoor
open Go.SLA
set_option maxRecDepth 100000
set_option linter.unusedVariables false
set_option linter.unusedSimpArgs false
attribute [local irreducible] J L K QL Rg FSpec OpV OpX Rd Back

def num2 (a b : Nat) : Nat := 256 * a + b
theorem or8 {a b : Nat} (ha : a < 256) (hb : b < 256) : Value.int .i64 (IntKind.i64.wrap ((BitVec.ofInt IntKind.i64.bits ((256 * a : Nat) : Int) ||| BitVec.ofInt IntKind.i64.bits ((b : Nat) : Int)).toNat : Int)) = .int .i64 ((num2 a b : Nat) : Int) := by
  rw [show IntKind.i64.bits = 64 from rfl, BitVec.ofInt_natCast, BitVec.ofInt_natCast, BitVec.toNat_or, BitVec.toNat_ofNat, BitVec.toNat_ofNat, Nat.mod_eq_of_lt (by omega), Nat.mod_eq_of_lt (by omega)]
  have h := Nat.shiftLeft_add_eq_or_of_lt (i := 8) (b := b) (by omega) a
  rw [Nat.shiftLeft_eq, show a * 2 ^ 8 = 256 * a by omega] at h
  rw [← h, wrap_i64 (by omega)]
  rfl
theorem map8_inj {l r : List Nat} (h : l.map enc8 = r.map enc8) : l = r := by
  refine List.map_inj_right ?_ |>.1 h
  intro a b hab
  simp only [enc8, Value.int.injEq, true_and] at hab
  omega
theorem tx_size (l : List Nat) : (tx l).size = l.length := by unfold tx; rw [bytesL_size, List.length_map]
theorem tx_drop (l : List Nat) (k : Nat) : (tx l).extract k (tx l).size = tx (l.drop k) := by
  rw [tx_size]
  apply ByteArray.ext
  rw [ByteArray.data_extract]
  apply Array.toList_inj.1
  unfold tx bytesL
  simp [List.extract_eq_take_drop, List.map_drop, List.take_of_length_le]
theorem byt_tx {l : List Nat} {i w : Nat} (h : l[i]? = some w) (hw : w < 256) : byt (tx l) i = (w : Int) := by
  unfold byt tx bytesL
  simp only [List.map_map, List.getD_eq_getElem?_getD, List.getElem?_map, h, Option.map_some, Option.getD_some, Function.comp_apply, Int.toNat_natCast]
  rw [show (UInt8.ofNat w).toNat = w from by rw [UInt8.toNat_ofNat']; omega]
theorem tx_inj {k : Nat} : ∀ {l r : List Nat}, Bys k l → Bys k r → tx l = tx r → l = r := by
  intro l r hl hr h
  apply List.ext_getElem? 
  intro i
  rcases Nat.lt_or_ge i k with hi | hi
  · obtain ⟨x, hx, mx⟩ := get_lt (l := l) (i := i) (by rw [hl.1]; exact hi)
    obtain ⟨y, hy, my⟩ := get_lt (l := r) (i := i) (by rw [hr.1]; exact hi)
    have a := byt_tx hx (hl.2 _ mx)
    have b := byt_tx hy (hr.2 _ my)
    rw [h, b] at a
    rw [hx, hy]
    congr 1
    omega
  · rw [List.getElem?_eq_none (by rw [hl.1]; exact hi), List.getElem?_eq_none (by rw [hr.1]; exact hi)]
theorem shape6 {l : List Nat} (h : Bys 6 l) : Shape [.int .u8, .int .u8, .int .u8, .int .u8, .int .u8, .int .u8] (l.map enc8) := by
  obtain ⟨a, b, c, d, e, f, rfl, _⟩ := h.six
  simp [Shape, CK.sh, enc8]
theorem shape4 {l : List Nat} (h : Bys 4 l) : Shape [.int .u8, .int .u8, .int .u8, .int .u8] (l.map enc8) := by
  obtain ⟨a, b, c, d, rfl, _⟩ := h.four
  simp [Shape, CK.sh, enc8]
section
variable {p : List Nat × Int} {l : List Nat} {k : Nat}
theorem yes_n (h1 : ¬ p.2 ≠ 0) (h2 : ¬ (p.1 ≠ l)) : p = (l, 0) := Prod.ext (Classical.not_not.1 h2) (Classical.not_not.1 h1)
theorem no_n (h : p.2 ≠ 0 ∨ p.1 ≠ l) : p ≠ (l, 0) := by rintro rfl; simp at h
theorem yes_e (h1 : p.2 = 0) (h2 : p.1 = l) : p = (l, 0) := Prod.ext h2 h1
theorem no_e (h : ¬ p.2 = 0 ∨ ¬ p.1 = l) : p ≠ (l, 0) := by rintro rfl; simp at h
open Classical in
theorem eq8 {l r : List Nat} : Value.bool (decide (l.map enc8 = r.map enc8)) = .bool (@decide (l = r) (instDecidableEqList l r)) := congrArg _ (decide_eq_decide.2 ⟨map8_inj, fun h => by rw [h]⟩)
open Classical in
theorem ne8 {l r : List Nat} : Value.bool (decide (l.map enc8 ≠ r.map enc8)) = .bool (@decide (l ≠ r) instDecidableNot) := congrArg _ (decide_eq_decide.2 ⟨fun h e => h (by rw [e]), fun h e => h (map8_inj e)⟩)
theorem yes_t (hp : Adr k p) (hl : Bys k l) (h1 : p.2 = 0) (h2 : txe p = tx l) : p = (l, 0) := by
  unfold txe at h2
  rw [if_pos h1] at h2
  exact Prod.ext (tx_inj hp.1 hl h2) h1
theorem no_t (h : ¬ p.2 = 0 ∨ ¬ txe p = tx l) : p ≠ (l, 0) := by rintro rfl; simp [txe] at h
end
/-- What is told by an address. -/
def vlP (l : List Nat) (v : Nat) : Int × Int := if lnk v = (l, 0) then ((v : Nat), 0) else (0, 14)
theorem vlP_yes {l : List Nat} {v : Nat} (h : lnk v = (l, 0)) : vlP l v = (((v : Nat) : Int), 0) := if_pos h
theorem vlP_no {l : List Nat} {v : Nat} (h : lnk v ≠ (l, 0)) : vlP l v = (0, 14) := if_neg h
def ofP (l : List Nat) (n : Nat) (k : Int) : Int × Int × Int := if sou n k = (l, 0) then ((n : Nat), k, 0) else (0, 0, 14)
theorem ofP_yes {l : List Nat} {n : Nat} {k : Int} (h : sou n k = (l, 0)) : ofP l n k = (((n : Nat) : Int), k, 0) := if_pos h
theorem ofP_no {l : List Nat} {n : Nat} {k : Int} (h : sou n k ≠ (l, 0)) : ofP l n k = (0, 0, 14) := if_neg h
def whP (l : List Nat) (n k v : Nat) : Int × Int × Int × Int := if prt n k = (l, 0) then ((n : Nat), (k : Nat), 0, 0) else if grp v = (l, 0) then (0, 0, (v : Nat), 0) else (0, 0, 0, 14)
theorem whP_1 {l : List Nat} {n k v : Nat} (h : prt n k = (l, 0)) : whP l n k v = (((n : Nat) : Int), ((k : Nat) : Int), 0, 0) := if_pos h
theorem whP_2 {l : List Nat} {n k v : Nat} (h : prt n k ≠ (l, 0)) (h2 : grp v = (l, 0)) : whP l n k v = (0, 0, ((v : Nat) : Int), 0) := by unfold whP; rw [if_neg h, if_pos h2]
theorem whP_3 {l : List Nat} {n k v : Nat} (h : prt n k ≠ (l, 0)) (h2 : grp v ≠ (l, 0)) : whP l n k v = (0, 0, 0, 14) := by unfold whP; rw [if_neg h, if_neg h2]

theorem one_any (a b : Nat) (ha : a < 256) (hb : b < 256) : FSpec Tryd.prog 41 #[.int .u8 (a : Nat), .int .u8 (b : Nat)] (emp) (fun _ : Unit => True) (fun _ => .int .i64 ((num2 a b : Nat) : Int)) (fun _ => emp) := by
  refine FSpec.enter' Tryd.func41 rfl Tryd.ntmps41 rfl fun σ F => ?_
  refine J_seq ?_
  refine J_region ?_
  refine L_v (opv_assign rfl) rfl ?_
  refine L_nil ?_
  refine K_then ?_
  refine J_seq ?_
  refine J_region ?_
  refine L_v (opv_move rfl) rfl ?_
  refine L_v ((opv_convW rfl (Go.IntWalk.i64_in _ (by omega))).as (v' := .int .i64 ((a : Nat) : Int)) rfl) rfl ?_
  refine L_v ((opv_shl rfl rfl (by decide)).as (v' := .int .i64 ((256 * a : Nat) : Int)) (congrArg (Value.int .i64) (by show IntKind.i64.wrap ((a : Int) * 256) = _; rw [wrap_i64 (by omega)]; omega))) rfl ?_
  refine L_v (opv_move rfl) rfl ?_
  refine L_v ((opv_convW rfl (Go.IntWalk.i64_in _ (by omega))).as (v' := .int .i64 ((b : Nat) : Int)) rfl) rfl ?_
  refine L_v ((opv_or rfl rfl).as (or8 ha hb)) rfl ?_
  refine L_v (opv_assign rfl) rfl ?_
  refine L_nil ?_
  refine K_then ?_
  refine J_ret ?_
  exact K_ret1 rfl rfl () trivial (rfl) (Ent.refl _)

theorem VL_any (a b c d e f : Nat) (hb : Bys 6 [a, b, c, d, e, f]) : FSpec Tryd.prog 21 #[ag [a, b, c, d, e, f]] (emp) (fun _ : Unit => True) (fun _ => .tuple #[.int .i64 (vlP [a, b, c, d, e, f] (num2 e f)).1, .int .i64 (vlP [a, b, c, d, e, f] (num2 e f)).2]) (fun _ => emp) := by
  refine FSpec.enter' Tryd.func21 rfl Tryd.ntmps21 rfl fun σ F => ?_
  refine J_emp ?_
  have hq : a < 256 ∧ b < 256 ∧ c < 256 ∧ d < 256 ∧ e < 256 ∧ f < 256 := by have := hb.2; simp at this; omega
  refine J_seq ?_
  refine J_region ?_
  refine L_x rfl (opx_box (l := [a, b, c, d, e, f].map enc8) rfl rfl) (fun b1 _ => ?_)
  refine L_v (opv_assign rfl) rfl ?_
  refine L_v (opv_assign rfl) rfl ?_
  refine L_nil ?_
  refine K_then ?_
  refine J_seq ?_
  refine J_region ?_
  refine L_v ((opv_indexAddrA rfl rfl (by decide)).as (v' := .pointer (some (ad b1 4))) rfl) rfl ?_
  refine L_v (opv_load (v := .int .u8 ((e : Nat) : Int)) rfl (Rd.look rfl)) rfl ?_
  refine L_v ((opv_indexAddrA rfl rfl (by decide)).as (v' := .pointer (some (ad b1 5))) rfl) rfl ?_
  refine L_v (opv_load (v := .int .u8 ((f : Nat) : Int)) rfl (Rd.look rfl)) rfl ?_
  refine L_x rfl (opx_call0 (one_any e f (by omega) (by omega)) rfl rfl rfl) (fun _ _ => ?_)
  refine L_emp ?_
  refine L_v (opv_assign rfl) rfl ?_
  refine L_nil ?_
  refine K_then ?_
  refine J_seq ?_
  refine J_seq ?_
  refine J_region ?_
  refine L_v (opv_move rfl) rfl ?_
  refine L_x rfl (opx_call0 (Link_any (num2 e f)) rfl rfl rfl) (fun _ _ => ?_)
  refine L_emp ?_
  refine L_v (opv_move rfl) rfl ?_
  refine L_v (opv_extract (v := ag (lnk (num2 e f)).1) rfl rfl) rfl ?_
  refine L_v (opv_extract (v := .int .i64 (lnk (num2 e f)).2) rfl rfl) rfl ?_
  refine L_x rfl (opx_alloc rfl) (fun b5 _ => ?_)
  refine L_x rfl (opx_storeW (m := 6) rfl rfl (enc8_len (lnk_adr (num2 e f)).1) (enc8_one _) rfl) (fun _ _ => ?_)
  refine L_v (opv_assign rfl) rfl ?_
  refine L_nil ?_
  refine K_then ?_
  refine J_seq ?_
  refine J_region ?_
  refine L_v (opv_move rfl) rfl ?_
  first
    | refine L_v (opv_neq rfl rfl) rfl ?_
    | refine L_v (opv_neqS rfl rfl) rfl ?_
    | refine L_v (opv_neqNil rfl rfl) rfl ?_
    | refine L_v (opv_neqB rfl rfl) rfl ?_
  refine L_v (opv_move rfl) rfl ?_
  refine L_gf rfl rfl (fun h1 => ?_) (fun h1 => ?_) (fun _ h => by cases h; rfl)
  · refine L_v (opv_loadW rfl (enc8_len (lnk_adr (num2 e f)).1)) rfl ?_
    refine L_gf_on h1 rfl rfl ?_
    refine L_v (opv_loadW rfl rfl) rfl ?_
    refine L_gf_on h1 rfl rfl ?_
    refine L_v ((opv_neqF rfl rfl (shape6 (lnk_adr (num2 e f)).1) (shape6 hb)).as ne8) rfl ?_
    refine L_v (opv_pick_f rfl h1 rfl) rfl ?_
    refine L_nil ?_
    refine K_then ?_
    refine J_cond rfl (fun h2 => ?_) (fun h2 => ?_)
    · refine J_seq ?_
      refine J_region ?_
      refine L_v (opv_assign rfl) rfl ?_
      refine L_v (opv_assign rfl) rfl ?_
      refine L_nil ?_
      refine K_then ?_
      refine J_ret ?_
      refine K_then_ret ?_
      exact K_ret2 rfl rfl rfl () trivial (by rw [vlP_no (no_n (by first | exact .inl (by assumption) | exact .inr (by assumption)))]) Ent.take
    · refine J_skip ?_
      refine K_then ?_
      refine J_seq ?_
      refine J_region ?_
      refine L_v (opv_move rfl) rfl ?_
      refine L_v (opv_assign rfl) rfl ?_
      refine L_v (opv_assign rfl) rfl ?_
      refine L_nil ?_
      refine K_then ?_
      refine J_ret ?_
      exact K_ret2 rfl rfl rfl () trivial (by rw [vlP_yes (yes_n (by assumption) (by assumption))]) Ent.take
  · refine L_gf_off h1 rfl rfl ?_ (fun _ h => by cases h; rfl)
    refine L_gf_off h1 rfl rfl ?_ (fun _ h => by cases h; rfl)
    refine L_v (opv_pick_t rfl h1 rfl) rfl ?_
    refine L_nil ?_
    refine K_then ?_
    refine J_cond_true rfl ?_
    refine J_seq ?_
    refine J_region ?_
    refine L_v (opv_assign rfl) rfl ?_
    refine L_v (opv_assign rfl) rfl ?_
    refine L_nil ?_
    refine K_then ?_
    refine J_ret ?_
    refine K_then_ret ?_
    exact K_ret2 rfl rfl rfl () trivial (by rw [vlP_no (no_n (by first | exact .inl (by assumption) | exact .inr (by assumption)))]) Ent.take

theorem q32 {w : Nat} (h : w < 256) : Value.int .u8 (IntKind.u8.wrap (Int.tdiv (w : Int) 32)) = .int .u8 ((w / 32 : Nat) : Int) := by
  rw [Int.tdiv_eq_ediv_of_nonneg (by omega), IntKind.wrap_u8]
  exact congrArg _ (by omega)

theorem Of_any (a b c d e f : Nat) (hb : Bys 6 [a, b, c, d, e, f]) : FSpec Tryd.prog 24 #[ag [a, b, c, d, e, f]] (emp) (fun _ : Unit => True) (fun _ => .tuple #[.agg [.int .i64 (ofP [a, b, c, d, e, f] (num2 d e) (((f / 32 : Nat) : Int) - 1)).1, .int .i64 (ofP [a, b, c, d, e, f] (num2 d e) (((f / 32 : Nat) : Int) - 1)).2.1].toArray, .int .i64 (ofP [a, b, c, d, e, f] (num2 d e) (((f / 32 : Nat) : Int) - 1)).2.2]) (fun _ => emp) := by
  refine FSpec.enter' Tryd.func24 rfl Tryd.ntmps24 rfl fun σ F => ?_
  refine J_emp ?_
  have hq : a < 256 ∧ b < 256 ∧ c < 256 ∧ d < 256 ∧ e < 256 ∧ f < 256 := by have := hb.2; simp at this; omega
  refine J_seq ?_
  refine J_region ?_
  refine L_x rfl (opx_box (l := [a, b, c, d, e, f].map enc8) rfl rfl) (fun b1 _ => ?_)
  refine L_x rfl (opx_alloc rfl) (fun b2 _ => ?_)
  refine L_v (opv_assign rfl) rfl ?_
  refine L_nil ?_
  refine K_then ?_
  refine J_seq ?_
  refine J_steps (cel b1 ([a, b, c, d, e, f].map enc8) 23) (cel b1 ([a, b, c, d, e, f].map enc8) 23) [] Tryd.mixed ?_
  refine R_pure 0 rfl (by kernel_rfl) (by kernel_rfl) (by kernel_rfl) (by kernel_rfl) (.inr ⟨_, Take.eq (A := cel b1 ([a, b, c, d, e, f].map enc8) 23)⟩) ((opv_indexAddrA rfl rfl (by decide)).as (v' := .pointer (some (ad b1 3))) rfl) rfl ?_
  refine R_take 1 rfl (by kernel_rfl) (by kernel_rfl) (by kernel_rfl) (by kernel_rfl) (by kernel_rfl) (opv_load (v := .int .u8 ((d : Nat) : Int)) rfl (Rd.look rfl)) rfl ?_
  refine R_pure 2 rfl (by kernel_rfl) (by kernel_rfl) (by kernel_rfl) (by kernel_rfl) (.inr ⟨_, Take.eq (A := cel b1 ([a, b, c, d, e, f].map enc8) 23)⟩) ((opv_indexAddrA rfl rfl (by decide)).as (v' := .pointer (some (ad b1 4))) rfl) rfl ?_
  refine R_take 3 rfl (by kernel_rfl) (by kernel_rfl) (by kernel_rfl) (by kernel_rfl) (by kernel_rfl) (opv_load (v := .int .u8 ((e : Nat) : Int)) rfl (Rd.look rfl)) rfl ?_
  refine R_pure 5 rfl (by kernel_rfl) (by kernel_rfl) (by kernel_rfl) (by kernel_rfl) (.inr ⟨_, Take.eq (A := cel b1 ([a, b, c, d, e, f].map enc8) 23)⟩) ((opv_indexAddrA rfl rfl (by decide)).as (v' := .pointer (some (ad b1 5))) rfl) rfl ?_
  refine R_take 6 rfl (by kernel_rfl) (by kernel_rfl) (by kernel_rfl) (by kernel_rfl) (by kernel_rfl) (opv_load (v := .int .u8 ((f : Nat) : Int)) rfl (Rd.look rfl)) rfl ?_
  refine R_pure 7 rfl (by kernel_rfl) (by kernel_rfl) (by kernel_rfl) (by kernel_rfl) (.inr ⟨_, Take.eq (A := cel b1 ([a, b, c, d, e, f].map enc8) 23)⟩) ((opv_quo rfl rfl (by decide)).as (q32 (by omega))) rfl ?_
  refine R_pure 8 rfl (by kernel_rfl) (by kernel_rfl) (by kernel_rfl) (by kernel_rfl) (.inr ⟨_, Take.eq (A := cel b1 ([a, b, c, d, e, f].map enc8) 23)⟩) ((opv_convW rfl (Go.IntWalk.i64_in _ (by omega))).as (v' := .int .i64 ((f / 32 : Nat) : Int)) rfl) rfl ?_
  refine R_pure 9 rfl (by kernel_rfl) (by kernel_rfl) (by kernel_rfl) (by kernel_rfl) (.inr ⟨_, Take.eq (A := cel b1 ([a, b, c, d, e, f].map enc8) 23)⟩) ((opv_sub64 rfl rfl (by omega))) rfl ?_
  refine R_all [4, 11] (by kernel_rfl) rfl fun i hi => ?_
  simp only [List.mem_cons, List.not_mem_nil, or_false] at hi
  rcases hi with rfl | rfl
  · refine ⟨_, _, _, _, _, rfl, rfl, (opx_call0 (one_any d e (by omega) (by omega)) rfl rfl rfl), fun _ _ => ⟨⟨_, Take.eq (A := cel b1 ([a, b, c, d, e, f].map enc8) 23)⟩, .inr ⟨_, Take.eq (A := cel b1 ([a, b, c, d, e, f].map enc8) 23)⟩, ?_⟩⟩
    refine Rg_emp ?_
    refine R_pure 10 rfl (by kernel_rfl) (by kernel_rfl) (by kernel_rfl) (by kernel_rfl) (.inr ⟨_, Take.eq (A := cel b1 ([a, b, c, d, e, f].map enc8) 23)⟩) (opv_build rfl) rfl ?_
    refine R_only 11 rfl rfl (by kernel_rfl) (opx_alloc rfl) (fun _ _ => ⟨_, Take.eq (A := cel b1 ([a, b, c, d, e, f].map enc8) 23)⟩) (.inr fun _ _ => ⟨_, Take.eq (A := cel b1 ([a, b, c, d, e, f].map enc8) 23)⟩) (fun b4 _ => ?_)
    refine R_only 12 rfl rfl (by kernel_rfl) (opx_store rfl rfl rfl (by simp [Value.oneCell'])) (fun _ _ => ⟨_, Take.eq (A := cel b1 ([a, b, c, d, e, f].map enc8) 23)⟩) (.inr fun _ _ => ⟨_, Take.eq (A := cel b1 ([a, b, c, d, e, f].map enc8) 23)⟩) (fun _ _ => ?_)
    refine R_done (by kernel_rfl) ?_
    refine K_then ?_
    refine J_seq ?_
    refine J_seq ?_
    refine J_region ?_
    refine L_v (opv_loadS rfl) rfl ?_
    refine L_x rfl (opx_call0 (Source_any (num2 d e : Nat) (((f / 32 : Nat) : Int) - 1)) rfl rfl rfl) (fun _ _ => ?_)
    refine L_emp ?_
    refine L_v (opv_move rfl) rfl ?_
    refine L_v (opv_extract (v := ag (sou (num2 d e : Nat) (((f / 32 : Nat) : Int) - 1)).1) rfl rfl) rfl ?_
    refine L_v (opv_extract (v := .int .i64 (sou (num2 d e : Nat) (((f / 32 : Nat) : Int) - 1)).2) rfl rfl) rfl ?_
    refine L_x rfl (opx_alloc rfl) (fun b5 _ => ?_)
    refine L_x rfl (opx_storeW (m := 6) rfl rfl (enc8_len (sou_adr (num2 d e : Nat) (((f / 32 : Nat) : Int) - 1)).1) (enc8_one _) rfl) (fun _ _ => ?_)
    refine L_v (opv_assign rfl) rfl ?_
    refine L_nil ?_
    refine K_then ?_
    refine J_seq ?_
    refine J_region ?_
    refine L_v (opv_move rfl) rfl ?_
    first
      | refine L_v (opv_neq rfl rfl) rfl ?_
      | refine L_v (opv_neqS rfl rfl) rfl ?_
      | refine L_v (opv_neqNil rfl rfl) rfl ?_
      | refine L_v (opv_neqB rfl rfl) rfl ?_
    refine L_v (opv_move rfl) rfl ?_
    refine L_gf rfl rfl (fun h1 => ?_) (fun h1 => ?_) (fun _ h => by cases h; rfl)
    · refine L_v (opv_loadW rfl (enc8_len (sou_adr _ _).1)) rfl ?_
      refine L_gf_on h1 rfl rfl ?_
      refine L_v (opv_loadW rfl rfl) rfl ?_
      refine L_gf_on h1 rfl rfl ?_
      refine L_v ((opv_neqF rfl rfl (shape6 (sou_adr _ _).1) (shape6 hb)).as ne8) rfl ?_
      refine L_v (opv_pick_f rfl h1 rfl) rfl ?_
      refine L_nil ?_
      refine K_then ?_
      refine J_cond rfl (fun h2 => ?_) (fun h2 => ?_)
      · refine J_seq ?_
        refine J_region ?_
        refine L_v (opv_build rfl) rfl ?_
        refine L_x rfl (opx_store rfl rfl rfl (by simp [Value.oneCell'])) (fun _ _ => ?_)
        refine L_v (opv_assign rfl) rfl ?_
        refine L_nil ?_
        refine K_then ?_
        refine J_ret ?_
        refine K_then_ret ?_
        exact K_ret2c rfl rfl rfl rfl () trivial (by rw [ofP_no (no_n (by first | exact .inl (by assumption) | exact .inr (by assumption)))]) Ent.take
      · refine J_skip ?_
        refine K_then ?_
        refine J_seq ?_
        refine J_region ?_
        refine L_v (opv_loadS rfl) rfl ?_
        refine L_x rfl (opx_store rfl rfl rfl (by simp [Value.oneCell'])) (fun _ _ => ?_)
        refine L_v (opv_assign rfl) rfl ?_
        refine L_nil ?_
        refine K_then ?_
        refine J_ret ?_
        exact K_ret2c rfl rfl rfl rfl () trivial (by rw [ofP_yes (yes_n (by assumption) (by assumption))]) Ent.take
    · refine L_gf_off h1 rfl rfl ?_ (fun _ h => by cases h; rfl)
      refine L_gf_off h1 rfl rfl ?_ (fun _ h => by cases h; rfl)
      refine L_v (opv_pick_t rfl h1 rfl) rfl ?_
      refine L_nil ?_
      refine K_then ?_
      refine J_cond_true rfl ?_
      refine J_seq ?_
      refine J_region ?_
      refine L_v (opv_build rfl) rfl ?_
      refine L_x rfl (opx_store rfl rfl rfl (by simp [Value.oneCell'])) (fun _ _ => ?_)
      refine L_v (opv_assign rfl) rfl ?_
      refine L_nil ?_
      refine K_then ?_
      refine J_ret ?_
      refine K_then_ret ?_
      exact K_ret2c rfl rfl rfl rfl () trivial (by rw [ofP_no (no_n (by first | exact .inl (by assumption) | exact .inr (by assumption)))]) Ent.take
  · refine ⟨_, _, _, _, _, rfl, rfl, (opx_alloc rfl), fun b4 _ => ⟨⟨_, Take.eq (A := cel b1 ([a, b, c, d, e, f].map enc8) 23)⟩, .inr ⟨_, Take.eq (A := cel b1 ([a, b, c, d, e, f].map enc8) 23)⟩, ?_⟩⟩
    refine R_only 4 rfl rfl (by kernel_rfl) (opx_call0 (one_any d e (by omega) (by omega)) rfl rfl rfl) (fun _ _ => ⟨_, Take.eq (A := cel b1 ([a, b, c, d, e, f].map enc8) 23)⟩) (.inr fun _ _ => ⟨_, Take.eq (A := cel b1 ([a, b, c, d, e, f].map enc8) 23)⟩) (fun _ _ => ?_)
    refine Rg_emp ?_
    refine R_pure 10 rfl (by kernel_rfl) (by kernel_rfl) (by kernel_rfl) (by kernel_rfl) (.inr ⟨_, Take.eq (A := cel b1 ([a, b, c, d, e, f].map enc8) 23)⟩) (opv_build rfl) rfl ?_
    refine R_only 12 rfl rfl (by kernel_rfl) (opx_store rfl rfl rfl (by simp [Value.oneCell'])) (fun _ _ => ⟨_, Take.eq (A := cel b1 ([a, b, c, d, e, f].map enc8) 23)⟩) (.inr fun _ _ => ⟨_, Take.eq (A := cel b1 ([a, b, c, d, e, f].map enc8) 23)⟩) (fun _ _ => ?_)
    refine R_done (by kernel_rfl) ?_
    refine K_then ?_
    refine J_seq ?_
    refine J_seq ?_
    refine J_region ?_
    refine L_v (opv_loadS rfl) rfl ?_
    refine L_x rfl (opx_call0 (Source_any (num2 d e : Nat) (((f / 32 : Nat) : Int) - 1)) rfl rfl rfl) (fun _ _ => ?_)
    refine L_emp ?_
    refine L_v (opv_move rfl) rfl ?_
    refine L_v (opv_extract (v := ag (sou (num2 d e : Nat) (((f / 32 : Nat) : Int) - 1)).1) rfl rfl) rfl ?_
    refine L_v (opv_extract (v := .int .i64 (sou (num2 d e : Nat) (((f / 32 : Nat) : Int) - 1)).2) rfl rfl) rfl ?_
    refine L_x rfl (opx_alloc rfl) (fun b5 _ => ?_)
    refine L_x rfl (opx_storeW (m := 6) rfl rfl (enc8_len (sou_adr (num2 d e : Nat) (((f / 32 : Nat) : Int) - 1)).1) (enc8_one _) rfl) (fun _ _ => ?_)
    refine L_v (opv_assign rfl) rfl ?_
    refine L_nil ?_
    refine K_then ?_
    refine J_seq ?_
    refine J_region ?_
    refine L_v (opv_move rfl) rfl ?_
    first
      | refine L_v (opv_neq rfl rfl) rfl ?_
      | refine L_v (opv_neqS rfl rfl) rfl ?_
      | refine L_v (opv_neqNil rfl rfl) rfl ?_
      | refine L_v (opv_neqB rfl rfl) rfl ?_
    refine L_v (opv_move rfl) rfl ?_
    refine L_gf rfl rfl (fun h3 => ?_) (fun h3 => ?_) (fun _ h => by cases h; rfl)
    · refine L_v (opv_loadW rfl (enc8_len (sou_adr _ _).1)) rfl ?_
      refine L_gf_on h3 rfl rfl ?_
      refine L_v (opv_loadW rfl rfl) rfl ?_
      refine L_gf_on h3 rfl rfl ?_
      refine L_v ((opv_neqF rfl rfl (shape6 (sou_adr _ _).1) (shape6 hb)).as ne8) rfl ?_
      refine L_v (opv_pick_f rfl h3 rfl) rfl ?_
      refine L_nil ?_
      refine K_then ?_
      refine J_cond rfl (fun h4 => ?_) (fun h4 => ?_)
      · refine J_seq ?_
        refine J_region ?_
        refine L_v (opv_build rfl) rfl ?_
        refine L_x rfl (opx_store rfl rfl rfl (by simp [Value.oneCell'])) (fun _ _ => ?_)
        refine L_v (opv_assign rfl) rfl ?_
        refine L_nil ?_
        refine K_then ?_
        refine J_ret ?_
        refine K_then_ret ?_
        exact K_ret2c rfl rfl rfl rfl () trivial (by rw [ofP_no (no_n (by first | exact .inl (by assumption) | exact .inr (by assumption)))]) Ent.take
      · refine J_skip ?_
        refine K_then ?_
        refine J_seq ?_
        refine J_region ?_
        refine L_v (opv_loadS rfl) rfl ?_
        refine L_x rfl (opx_store rfl rfl rfl (by simp [Value.oneCell'])) (fun _ _ => ?_)
        refine L_v (opv_assign rfl) rfl ?_
        refine L_nil ?_
        refine K_then ?_
        refine J_ret ?_
        exact K_ret2c rfl rfl rfl rfl () trivial (by rw [ofP_yes (yes_n (by assumption) (by assumption))]) Ent.take
    · refine L_gf_off h3 rfl rfl ?_ (fun _ h => by cases h; rfl)
      refine L_gf_off h3 rfl rfl ?_ (fun _ h => by cases h; rfl)
      refine L_v (opv_pick_t rfl h3 rfl) rfl ?_
      refine L_nil ?_
      refine K_then ?_
      refine J_cond_true rfl ?_
      refine J_seq ?_
      refine J_region ?_
      refine L_v (opv_build rfl) rfl ?_
      refine L_x rfl (opx_store rfl rfl rfl (by simp [Value.oneCell'])) (fun _ _ => ?_)
      refine L_v (opv_assign rfl) rfl ?_
      refine L_nil ?_
      refine K_then ?_
      refine J_ret ?_
      refine K_then_ret ?_
      exact K_ret2c rfl rfl rfl rfl () trivial (by rw [ofP_no (no_n (by first | exact .inl (by assumption) | exact .inr (by assumption)))]) Ent.take

theorem Whose_any (c d e f : Nat) (hb : Bys 4 [c, d, e, f]) : FSpec Tryd.prog 26 #[ag [c, d, e, f]] (emp) (fun _ : Unit => True) (fun _ => .tuple #[.int .i64 (whP [c, d, e, f] (num2 d e) f (num2 e f)).1, .int .i64 (whP [c, d, e, f] (num2 d e) f (num2 e f)).2.1, .int .i64 (whP [c, d, e, f] (num2 d e) f (num2 e f)).2.2.1, .int .i64 (whP [c, d, e, f] (num2 d e) f (num2 e f)).2.2.2]) (fun _ => emp) := by
  refine FSpec.enter' Tryd.func26 rfl Tryd.ntmps26 rfl fun σ F => ?_
  refine J_emp ?_
  have hq : c < 256 ∧ d < 256 ∧ e < 256 ∧ f < 256 := by have := hb.2; simp at this; omega
  refine J_seq ?_
  refine J_region ?_
  refine L_x rfl (opx_box (l := [c, d, e, f].map enc8) rfl rfl) (fun b1 _ => ?_)
  refine L_v (opv_assign rfl) rfl ?_
  refine L_v (opv_assign rfl) rfl ?_
  refine L_v (opv_assign rfl) rfl ?_
  refine L_v (opv_assign rfl) rfl ?_
  refine L_nil ?_
  refine K_then ?_
  refine J_seq ?_
  refine J_quiet Tryd.mixed (by kernel_rfl) ?_
  refine Q_v ((opv_indexAddrA rfl rfl (by decide)).as (v' := .pointer (some (ad b1 1))) rfl) rfl ?_
  refine Q_v (opv_load (v := .int .u8 ((d : Nat) : Int)) rfl (Rd.look rfl)) rfl ?_
  refine Q_v ((opv_indexAddrA rfl rfl (by decide)).as (v' := .pointer (some (ad b1 2))) rfl) rfl ?_
  refine Q_v (opv_load (v := .int .u8 ((e : Nat) : Int)) rfl (Rd.look rfl)) rfl ?_
  refine Q_call (one_any d e (by omega) (by omega)) rfl rfl (fun _ _ => rfl) (fun _ _ => Ent.refl _) rfl ?_
  refine Q_v ((opv_indexAddrA rfl rfl (by decide)).as (v' := .pointer (some (ad b1 3))) rfl) rfl ?_
  refine Q_v (opv_load (v := .int .u8 ((f : Nat) : Int)) rfl (Rd.look rfl)) rfl ?_
  refine Q_v ((opv_convW rfl (Go.IntWalk.i64_in _ (by omega))).as (v' := .int .i64 ((f : Nat) : Int)) rfl) rfl ?_
  refine Q_v ((opv_indexAddrA rfl rfl (by decide)).as (v' := .pointer (some (ad b1 2))) rfl) rfl ?_
  refine Q_v (opv_load (v := .int .u8 ((e : Nat) : Int)) rfl (Rd.look rfl)) rfl ?_
  refine Q_v ((opv_indexAddrA rfl rfl (by decide)).as (v' := .pointer (some (ad b1 3))) rfl) rfl ?_
  refine Q_v (opv_load (v := .int .u8 ((f : Nat) : Int)) rfl (Rd.look rfl)) rfl ?_
  refine Q_call (one_any e f (by omega) (by omega)) rfl rfl (fun _ _ => rfl) (fun _ _ => Ent.refl _) rfl ?_
  refine Q_v (opv_assign rfl) rfl ?_
  refine Q_v (opv_assign rfl) rfl ?_
  refine Q_v (opv_assign rfl) rfl ?_
  refine QL_nil ?_
  refine K_then ?_
  refine J_seq ?_
  refine J_seq ?_
  refine J_region ?_
  refine L_v (opv_move rfl) rfl ?_
  refine L_v (opv_move rfl) rfl ?_
  refine L_x rfl (opx_call0 (Part_any (num2 d e : Nat) (f : Nat)) rfl rfl rfl) (fun _ _ => ?_)
  refine L_emp ?_
  refine L_v (opv_move rfl) rfl ?_
  refine L_v (opv_extract (v := ag (prt (num2 d e : Nat) (f : Nat)).1) rfl rfl) rfl ?_
  refine L_v (opv_extract (v := .int .i64 (prt (num2 d e : Nat) (f : Nat)).2) rfl rfl) rfl ?_
  refine L_x rfl (opx_alloc rfl) (fun b6 _ => ?_)
  refine L_x rfl (opx_storeW (m := 4) rfl rfl (enc8_len (prt_adr (num2 d e : Nat) (f : Nat)).1) (enc8_one _) rfl) (fun _ _ => ?_)
  refine L_v (opv_assign rfl) rfl ?_
  refine L_nil ?_
  refine K_then ?_
  refine J_seq ?_
  refine J_region ?_
  refine L_v (opv_move rfl) rfl ?_
  first
    | refine L_v (opv_eql rfl rfl) rfl ?_
    | refine L_v (opv_eqlS rfl rfl) rfl ?_
    | refine L_v (opv_eqlNil rfl rfl) rfl ?_
    | refine L_v (opv_eqlB rfl rfl) rfl ?_
  refine L_v (opv_move rfl) rfl ?_
  refine L_gt rfl rfl (fun h1 => ?_) (fun h1 => ?_) (fun _ h => by cases h; rfl)
  · refine L_v (opv_loadW rfl (enc8_len (prt_adr _ _).1)) rfl ?_
    refine L_gt_on h1 rfl rfl ?_
    refine L_v (opv_loadW rfl rfl) rfl ?_
    refine L_gt_on h1 rfl rfl ?_
    refine L_v ((opv_eqlF rfl rfl (shape4 (prt_adr _ _).1) (shape4 hb)).as eq8) rfl ?_
    refine L_v (opv_pick_t rfl h1 rfl) rfl ?_
    refine L_nil ?_
    refine K_then ?_
    refine J_cond rfl (fun h2 => ?_) (fun h2 => ?_)
    · refine J_seq ?_
      refine J_region ?_
      refine L_v (opv_move rfl) rfl ?_
      refine L_v (opv_move rfl) rfl ?_
      refine L_v (opv_assign rfl) rfl ?_
      refine L_v (opv_assign rfl) rfl ?_
      refine L_v (opv_assign rfl) rfl ?_
      refine L_v (opv_assign rfl) rfl ?_
      refine L_nil ?_
      refine K_then ?_
      refine J_ret ?_
      refine K_then_ret ?_
      exact K_ret4 rfl rfl rfl rfl rfl () trivial (by rw [whP_1 (yes_e (by assumption) (by assumption))]) Ent.take
    · refine J_skip ?_
      refine K_then ?_
      refine J_seq ?_
      refine J_seq ?_
      refine J_region ?_
      refine L_v (opv_move rfl) rfl ?_
      refine L_x rfl (opx_call0 (Group_any (num2 e f : Nat)) rfl rfl rfl) (fun _ _ => ?_)
      refine L_emp ?_
      refine L_v (opv_move rfl) rfl ?_
      refine L_v (opv_extract (v := ag (grp (num2 e f : Nat)).1) rfl rfl) rfl ?_
      refine L_v (opv_extract (v := .int .i64 (grp (num2 e f : Nat)).2) rfl rfl) rfl ?_
      refine L_x rfl (opx_alloc rfl) (fun b8 _ => ?_)
      refine L_x rfl (opx_storeW (m := 4) rfl rfl (enc8_len (grp_adr (num2 e f : Nat)).1) (enc8_one _) rfl) (fun _ _ => ?_)
      refine L_v (opv_assign rfl) rfl ?_
      refine L_nil ?_
      refine K_then ?_
      refine J_seq ?_
      refine J_region ?_
      refine L_v (opv_move rfl) rfl ?_
      first
        | refine L_v (opv_eql rfl rfl) rfl ?_
        | refine L_v (opv_eqlS rfl rfl) rfl ?_
        | refine L_v (opv_eqlNil rfl rfl) rfl ?_
        | refine L_v (opv_eqlB rfl rfl) rfl ?_
      refine L_v (opv_move rfl) rfl ?_
      refine L_gt rfl rfl (fun h3 => ?_) (fun h3 => ?_) (fun _ h => by cases h; rfl)
      · refine L_v (opv_loadW rfl (enc8_len (grp_adr _).1)) rfl ?_
        refine L_gt_on h3 rfl rfl ?_
        refine L_v (opv_loadW rfl rfl) rfl ?_
        refine L_gt_on h3 rfl rfl ?_
        refine L_v ((opv_eqlF rfl rfl (shape4 (grp_adr _).1) (shape4 hb)).as eq8) rfl ?_
        refine L_v (opv_pick_t rfl h3 rfl) rfl ?_
        refine L_nil ?_
        refine K_then ?_
        refine J_cond rfl (fun h4 => ?_) (fun h4 => ?_)
        · refine J_seq ?_
          refine J_region ?_
          refine L_v (opv_move rfl) rfl ?_
          refine L_v (opv_assign rfl) rfl ?_
          refine L_v (opv_assign rfl) rfl ?_
          refine L_v (opv_assign rfl) rfl ?_
          refine L_v (opv_assign rfl) rfl ?_
          refine L_nil ?_
          refine K_then ?_
          refine J_ret ?_
          refine K_then_ret ?_
          exact K_ret4 rfl rfl rfl rfl rfl () trivial (by rw [whP_2 (no_e (by first | exact .inl (by assumption) | exact .inr (by assumption))) (yes_e (by assumption) (by assumption))]) Ent.take
        · refine J_skip ?_
          refine K_then ?_
          refine J_seq ?_
          refine J_region ?_
          refine L_v (opv_assign rfl) rfl ?_
          refine L_v (opv_assign rfl) rfl ?_
          refine L_v (opv_assign rfl) rfl ?_
          refine L_v (opv_assign rfl) rfl ?_
          refine L_nil ?_
          refine K_then ?_
          refine J_ret ?_
          exact K_ret4 rfl rfl rfl rfl rfl () trivial (by rw [whP_3 (no_e (by first | exact .inl (by assumption) | exact .inr (by assumption))) (no_e (by first | exact .inl (by assumption) | exact .inr (by assumption)))]) Ent.take
      · refine L_gt_off h3 rfl rfl ?_ (fun _ h => by cases h; rfl)
        refine L_gt_off h3 rfl rfl ?_ (fun _ h => by cases h; rfl)
        refine L_v (opv_pick_f rfl h3 rfl) rfl ?_
        refine L_nil ?_
        refine K_then ?_
        refine J_cond_false rfl ?_
        refine J_skip ?_
        refine K_then ?_
        refine J_seq ?_
        refine J_region ?_
        refine L_v (opv_assign rfl) rfl ?_
        refine L_v (opv_assign rfl) rfl ?_
        refine L_v (opv_assign rfl) rfl ?_
        refine L_v (opv_assign rfl) rfl ?_
        refine L_nil ?_
        refine K_then ?_
        refine J_ret ?_
        exact K_ret4 rfl rfl rfl rfl rfl () trivial (by rw [whP_3 (no_e (by first | exact .inl (by assumption) | exact .inr (by assumption))) (no_e (by first | exact .inl (by assumption) | exact .inr (by assumption)))]) Ent.take
  · refine L_gt_off h1 rfl rfl ?_ (fun _ h => by cases h; rfl)
    refine L_gt_off h1 rfl rfl ?_ (fun _ h => by cases h; rfl)
    refine L_v (opv_pick_f rfl h1 rfl) rfl ?_
    refine L_nil ?_
    refine K_then ?_
    refine J_cond_false rfl ?_
    refine J_skip ?_
    refine K_then ?_
    refine J_seq ?_
    refine J_seq ?_
    refine J_region ?_
    refine L_v (opv_move rfl) rfl ?_
    refine L_x rfl (opx_call0 (Group_any (num2 e f : Nat)) rfl rfl rfl) (fun _ _ => ?_)
    refine L_emp ?_
    refine L_v (opv_move rfl) rfl ?_
    refine L_v (opv_extract (v := ag (grp (num2 e f : Nat)).1) rfl rfl) rfl ?_
    refine L_v (opv_extract (v := .int .i64 (grp (num2 e f : Nat)).2) rfl rfl) rfl ?_
    refine L_x rfl (opx_alloc rfl) (fun b8 _ => ?_)
    refine L_x rfl (opx_storeW (m := 4) rfl rfl (enc8_len (grp_adr (num2 e f : Nat)).1) (enc8_one _) rfl) (fun _ _ => ?_)
    refine L_v (opv_assign rfl) rfl ?_
    refine L_nil ?_
    refine K_then ?_
    refine J_seq ?_
    refine J_region ?_
    refine L_v (opv_move rfl) rfl ?_
    first
      | refine L_v (opv_eql rfl rfl) rfl ?_
      | refine L_v (opv_eqlS rfl rfl) rfl ?_
      | refine L_v (opv_eqlNil rfl rfl) rfl ?_
      | refine L_v (opv_eqlB rfl rfl) rfl ?_
    refine L_v (opv_move rfl) rfl ?_
    refine L_gt rfl rfl (fun h5 => ?_) (fun h5 => ?_) (fun _ h => by cases h; rfl)
    · refine L_v (opv_loadW rfl (enc8_len (grp_adr _).1)) rfl ?_
      refine L_gt_on h5 rfl rfl ?_
      refine L_v (opv_loadW rfl rfl) rfl ?_
      refine L_gt_on h5 rfl rfl ?_
      refine L_v ((opv_eqlF rfl rfl (shape4 (grp_adr _).1) (shape4 hb)).as eq8) rfl ?_
      refine L_v (opv_pick_t rfl h5 rfl) rfl ?_
      refine L_nil ?_
      refine K_then ?_
      refine J_cond rfl (fun h6 => ?_) (fun h6 => ?_)
      · refine J_seq ?_
        refine J_region ?_
        refine L_v (opv_move rfl) rfl ?_
        refine L_v (opv_assign rfl) rfl ?_
        refine L_v (opv_assign rfl) rfl ?_
        refine L_v (opv_assign rfl) rfl ?_
        refine L_v (opv_assign rfl) rfl ?_
        refine L_nil ?_
        refine K_then ?_
        refine J_ret ?_
        refine K_then_ret ?_
        exact K_ret4 rfl rfl rfl rfl rfl () trivial (by rw [whP_2 (no_e (by first | exact .inl (by assumption) | exact .inr (by assumption))) (yes_e (by assumption) (by assumption))]) Ent.take
      · refine J_skip ?_
        refine K_then ?_
        refine J_seq ?_
        refine J_region ?_
        refine L_v (opv_assign rfl) rfl ?_
        refine L_v (opv_assign rfl) rfl ?_
        refine L_v (opv_assign rfl) rfl ?_
        refine L_v (opv_assign rfl) rfl ?_
        refine L_nil ?_
        refine K_then ?_
        refine J_ret ?_
        exact K_ret4 rfl rfl rfl rfl rfl () trivial (by rw [whP_3 (no_e (by first | exact .inl (by assumption) | exact .inr (by assumption))) (no_e (by first | exact .inl (by assumption) | exact .inr (by assumption)))]) Ent.take
    · refine L_gt_off h5 rfl rfl ?_ (fun _ h => by cases h; rfl)
      refine L_gt_off h5 rfl rfl ?_ (fun _ h => by cases h; rfl)
      refine L_v (opv_pick_f rfl h5 rfl) rfl ?_
      refine L_nil ?_
      refine K_then ?_
      refine J_cond_false rfl ?_
      refine J_skip ?_
      refine K_then ?_
      refine J_seq ?_
      refine J_region ?_
      refine L_v (opv_assign rfl) rfl ?_
      refine L_v (opv_assign rfl) rfl ?_
      refine L_v (opv_assign rfl) rfl ?_
      refine L_v (opv_assign rfl) rfl ?_
      refine L_nil ?_
      refine K_then ?_
      refine J_ret ?_
      exact K_ret4 rfl rfl rfl rfl rfl () trivial (by rw [whP_3 (no_e (by first | exact .inl (by assumption) | exact .inr (by assumption))) (no_e (by first | exact .inl (by assumption) | exact .inr (by assumption)))]) Ent.take

theorem num_any (a b : Nat) (l : List Nat) (ha : a < 256) (hb : b < 256) : FSpec Tryd.prog 42 #[.string (tx (a :: b :: l))] (emp) (fun _ : Unit => True) (fun _ => .int .i64 ((num2 a b : Nat) : Int)) (fun _ => emp) := by
  refine FSpec.enter' Tryd.func42 rfl Tryd.ntmps42 rfl fun σ F => ?_
  refine J_seq ?_
  refine J_region ?_
  refine L_v (opv_assign rfl) rfl ?_
  refine L_nil ?_
  refine K_then ?_
  refine J_seq ?_
  refine J_quiet Tryd.mixed (by kernel_rfl) ?_
  refine Q_v (opv_move rfl) rfl ?_
  refine Q_v ((opv_indexS rfl rfl (by rw [tx_size]; simp; try omega)).as (v' := .int .u8 ((a : Nat) : Int)) (congrArg _ (byt_tx (l := a :: b :: l) (i := 0) rfl (by omega)))) rfl ?_
  refine Q_v ((opv_convW rfl (Go.IntWalk.i64_in _ (by omega))).as (v' := .int .i64 ((a : Nat) : Int)) rfl) rfl ?_
  first
    | refine Q_v (opv_mul64 rfl rfl (by omega)) rfl ?_
    | refine Q_v (opv_mul rfl rfl) rfl ?_
  refine Q_v (opv_move rfl) rfl ?_
  refine Q_v ((opv_indexS rfl rfl (by rw [tx_size]; simp; try omega)).as (v' := .int .u8 ((b : Nat) : Int)) (congrArg _ (byt_tx (l := a :: b :: l) (i := 1) rfl (by omega)))) rfl ?_
  refine Q_v ((opv_convW rfl (Go.IntWalk.i64_in _ (by omega))).as (v' := .int .i64 ((b : Nat) : Int)) rfl) rfl ?_
  refine Q_v ((opv_add64 rfl rfl (by omega)).as (v' := .int .i64 ((num2 a b : Nat) : Int)) (congrArg _ (by unfold num2; omega))) rfl ?_
  refine Q_v (opv_assign rfl) rfl ?_
  refine QL_nil ?_
  refine K_then ?_
  refine J_ret ?_
  exact K_ret1 rfl rfl () trivial (rfl) (Ent.refl _)


section
variable {prog : Program} {σ : World} {n : Nat} {E : Env} {P : HProp}
theorem opv_sliceTx {d : Option Tmp} {ty : TypeId} {pos : String} {aft : Array Edge} {g : Option (Nat × Bool)} {x lo : Operand} {t : TypeId} {k : IntKind} {a : Int} [Str prog t] (l : List Nat) (hx : ev E x = some (.string (tx l))) (hl : ev E lo = some (.int k a)) (h : 0 ≤ a ∧ a ≤ l.length) : OpV prog σ n E P ⟨d, .slice t x (some lo) none none, ty, pos, aft, g⟩ (.string (tx (l.drop a.toNat))) := by
  have := opv_sliceSlo (prog := prog) (σ := σ) (n := n) (E := E) (P := P) (d := d) (ty := ty) (pos := pos) (aft := aft) (g := g) (t := t) hx hl (by rw [tx_size]; exact h)
  rwa [tx_drop] at this
end


section
variable {p : List Nat × Int} {l : List Nat} {k : Nat}
theorem yes_tn (hp : Adr k p) (hl : Bys k l) (h1 : ¬ p.2 ≠ 0) (h2 : ¬ txe p ≠ tx l) : p = (l, 0) := yes_t hp hl (Classical.not_not.1 h1) (Classical.not_not.1 h2)
theorem no_tn (h : p.2 ≠ 0 ∨ txe p ≠ tx l) : p ≠ (l, 0) := no_t h
end
def rofP (l : List Nat) (n : Nat) : Int × Int × Int := if sou n 0 = (l, 0) then (((n : Nat) : Int), 0, 0) else if sou n 1 = (l, 0) then (((n : Nat) : Int), 1, 0) else (0, 0, 14)
theorem rofP_at {l : List Nat} {n j : Nat} (hj : j < 2) (h : sou n (j : Nat) = (l, 0)) (hp : ∀ i, i < j → sou n (i : Nat) ≠ (l, 0)) : rofP l n = (((n : Nat) : Int), ((j : Nat) : Int), 0) := by
  unfold rofP
  rcases (show j = 0 ∨ j = 1 by omega) with rfl | rfl
  · have h : sou (n : Nat) 0 = (l, 0) := h
    rw [if_pos h]; rfl
  · have h0 : ¬ sou (n : Nat) 0 = (l, 0) := hp 0 (by omega)
    have h1 : sou (n : Nat) 1 = (l, 0) := h
    rw [if_neg h0, if_pos h1]; rfl
theorem rofP_no {l : List Nat} {n : Nat} (h : ∀ i, i < 2 → sou n (i : Nat) ≠ (l, 0)) : rofP l n = (0, 0, 14) := by
  have h0 : ¬ sou (n : Nat) 0 = (l, 0) := h 0 (by omega)
  have h1 : ¬ sou (n : Nat) 1 = (l, 0) := h 1 (by omega)
  unfold rofP
  rw [if_neg h0, if_neg h1]
theorem ofP_rofP (a b c d e f n : Nat) : ofP [a, b, c, d, e, f] n (((f / 32 : Nat) : Int) - 1) = rofP [a, b, c, d, e, f] n := by
  have key : ∀ k : Int, sou n k = ([a, b, c, d, e, f], 0) → (k = 0 ∧ f = 32) ∨ (k = 1 ∧ f = 64) := by
    intro k h
    unfold sou at h
    split at h
    · simp only [Prod.mk.injEq, List.cons.injEq, and_true] at h
      omega
    · simp at h
  by_cases h0 : sou n 0 = ([a, b, c, d, e, f], 0)
  · obtain ⟨_, hf⟩ | ⟨hk, _⟩ := key 0 h0
    · subst hf
      show ofP _ n 0 = _
      rw [ofP_yes h0]; unfold rofP; rw [if_pos h0]
    · cases hk
  · by_cases h1 : sou n 1 = ([a, b, c, d, e, f], 0)
    · obtain ⟨hk, _⟩ | ⟨_, hf⟩ := key 1 h1
      · cases hk
      · subst hf
        show ofP _ n 1 = _
        rw [ofP_yes h1]; unfold rofP; rw [if_neg h0, if_pos h1]
    · unfold rofP; rw [if_neg h0, if_neg h1]
      refine ofP_no fun h => ?_
      obtain ⟨hk, _⟩ | ⟨hk, _⟩ := key _ h
      · rw [hk] at h; exact h0 h
      · rw [hk] at h; exact h1 h

attribute [local irreducible] tx txe lnk sou prt grp num2 vlP rofP whP
theorem RVL_any (a b c d e f : Nat) (hb : Bys 6 [a, b, c, d, e, f]) : FSpec Tryd.prog 22 #[.string (tx [a, b, c, d, e, f])] (emp) (fun _ : Unit => True) (fun _ => .tuple #[.int .i64 (vlP [a, b, c, d, e, f] (num2 e f)).1, .int .i64 (vlP [a, b, c, d, e, f] (num2 e f)).2]) (fun _ => emp) := by
  refine FSpec.enter' Tryd.func22 rfl Tryd.ntmps22 rfl fun σ F => ?_
  refine J_emp ?_
  have hq : a < 256 ∧ b < 256 ∧ c < 256 ∧ d < 256 ∧ e < 256 ∧ f < 256 := by have := hb.2; simp at this; omega
  refine J_seq ?_
  refine J_region ?_
  refine L_v (opv_assign rfl) rfl ?_
  refine L_v (opv_assign rfl) rfl ?_
  refine L_nil ?_
  refine K_then ?_
  refine J_seq ?_
  refine J_region ?_
  refine L_v (opv_move rfl) rfl ?_
  refine L_v ((opv_sliceTx [a, b, c, d, e, f] rfl rfl (by simp)).as (v' := .string (tx [e, f])) rfl) rfl ?_
  refine L_x rfl (opx_call0 (num_any e f [] (by omega) (by omega)) rfl rfl rfl) (fun _ _ => ?_)
  refine L_emp ?_
  refine L_v (opv_assign rfl) rfl ?_
  refine L_nil ?_
  refine K_then ?_
  refine J_seq ?_
  refine J_region ?_
  refine L_v (opv_move rfl) rfl ?_
  refine L_x rfl (opx_call0 (RLink_any (num2 e f)) rfl rfl rfl) (fun _ _ => ?_)
  refine L_emp ?_
  refine L_v (opv_move rfl) rfl ?_
  refine L_v (opv_extract (v := .string (txe (lnk (num2 e f)))) rfl rfl) rfl ?_
  refine L_v (opv_extract (v := .int .i64 (lnk (num2 e f)).2) rfl rfl) rfl ?_
  refine L_v (opv_assign rfl) rfl ?_
  refine L_v (opv_assign rfl) rfl ?_
  refine L_nil ?_
  refine K_then ?_
  refine J_seq ?_
  refine J_seq ?_
  refine J_region ?_
  refine L_v (opv_move rfl) rfl ?_
  first
    | refine L_v (opv_neq rfl rfl) rfl ?_
    | refine L_v (opv_neqS rfl rfl) rfl ?_
    | refine L_v (opv_neqNil rfl rfl) rfl ?_
    | refine L_v (opv_neqB rfl rfl) rfl ?_
  refine L_v (opv_move rfl) rfl ?_
  refine L_gf rfl rfl (fun h1 => ?_) (fun h1 => ?_) (fun _ h => by cases h; rfl)
  · refine L_v (opv_move rfl) rfl ?_
    refine L_gf_on h1 rfl rfl ?_
    refine L_v (opv_move rfl) rfl ?_
    refine L_gf_on h1 rfl rfl ?_
    first
      | refine L_v (opv_neq rfl rfl) rfl ?_
      | refine L_v (opv_neqS rfl rfl) rfl ?_
      | refine L_v (opv_neqNil rfl rfl) rfl ?_
      | refine L_v (opv_neqB rfl rfl) rfl ?_
    refine L_v (opv_pick_f rfl h1 rfl) rfl ?_
    refine L_nil ?_
    refine K_then ?_
    refine J_cond rfl (fun h2 => ?_) (fun h2 => ?_)
    · refine J_seq ?_
      refine J_region ?_
      refine L_v (opv_assign rfl) rfl ?_
      refine L_v (opv_assign rfl) rfl ?_
      refine L_nil ?_
      refine K_then ?_
      refine J_ret ?_
      refine K_then_ret ?_
      exact K_ret2 rfl rfl rfl () trivial (by rw [vlP_no (no_tn (by first | exact .inl (by assumption) | exact .inr (by assumption)))]) (Ent.of (emp_sep _).symm)
    · refine J_skip ?_
      refine K_then ?_
      refine J_seq ?_
      refine J_region ?_
      refine L_v (opv_move rfl) rfl ?_
      refine L_v (opv_assign rfl) rfl ?_
      refine L_v (opv_assign rfl) rfl ?_
      refine L_nil ?_
      refine K_then ?_
      refine J_ret ?_
      exact K_ret2 rfl rfl rfl () trivial (by rw [vlP_yes (yes_tn (lnk_adr _) hb (by assumption) (by assumption))]) (Ent.of (emp_sep _).symm)
  · refine L_gf_off h1 rfl rfl ?_ (fun _ h => by cases h; rfl)
    refine L_gf_off h1 rfl rfl ?_ (fun _ h => by cases h; rfl)
    refine L_v (opv_pick_t rfl h1 rfl) rfl ?_
    refine L_nil ?_
    refine K_then ?_
    refine J_cond_true rfl ?_
    refine J_seq ?_
    refine J_region ?_
    refine L_v (opv_assign rfl) rfl ?_
    refine L_v (opv_assign rfl) rfl ?_
    refine L_nil ?_
    refine K_then ?_
    refine J_ret ?_
    refine K_then_ret ?_
    exact K_ret2 rfl rfl rfl () trivial (by rw [vlP_no (no_tn (by first | exact .inl (by assumption) | exact .inr (by assumption)))]) (Ent.of (emp_sep _).symm)

theorem ROf_any (a b c d e f : Nat) (hb : Bys 6 [a, b, c, d, e, f]) : FSpec Tryd.prog 25 #[.string (tx [a, b, c, d, e, f])] (emp) (fun _ : Unit => True) (fun _ => .tuple #[.int .i64 (rofP [a, b, c, d, e, f] (num2 d e)).1, .int .i64 (rofP [a, b, c, d, e, f] (num2 d e)).2.1, .int .i64 (rofP [a, b, c, d, e, f] (num2 d e)).2.2]) (fun _ => emp) := by
  refine FSpec.enter' Tryd.func25 rfl Tryd.ntmps25 rfl fun σ F => ?_
  refine J_emp ?_
  have hq : a < 256 ∧ b < 256 ∧ c < 256 ∧ d < 256 ∧ e < 256 ∧ f < 256 := by have := hb.2; simp at this; omega
  refine J_seq ?_
  refine J_region ?_
  refine L_v (opv_assign rfl) rfl ?_
  refine L_v (opv_assign rfl) rfl ?_
  refine L_v (opv_assign rfl) rfl ?_
  refine L_nil ?_
  refine K_then ?_
  refine J_seq ?_
  refine J_seq ?_
  refine J_region ?_
  refine L_v (opv_assign rfl) rfl ?_
  refine L_nil ?_
  refine K_then ?_
  refine J_block ?_
  refine J_loop (X := Nat) (fun j => [(0, .string (tx [a, b, c, d, e, f])), (5, .int .i64 j)]) (fun j => F) (fun j => j ≤ 2 ∧ ∀ i, i < j → sou (num2 d e : Nat) (i : Nat) ≠ ([a, b, c, d, e, f], 0)) (fun j => 2 - j) (0) ⟨by decide, fun i h => absurd h (by omega)⟩ ⟨rfl, rfl, trivial⟩ (Ent.refl _) (fun j hj => ?_)
  refine J_seq ?_
  refine J_seq ?_
  refine J_region ?_
  refine L_v (opv_move rfl) rfl ?_
  refine L_v (opv_lss rfl rfl) rfl ?_
  refine L_nil ?_
  refine K_then ?_
  refine J_cond rfl (fun h1 => ?_) (fun h1 => ?_)
  · refine J_skip ?_
    refine K_then ?_
    refine J_seq ?_
    refine J_block ?_
    refine J_seq ?_
    refine J_region ?_
    refine L_v (opv_move rfl) rfl ?_
    refine L_v ((opv_sliceTx [a, b, c, d, e, f] rfl rfl (by simp)).as (v' := .string (tx [d, e, f])) rfl) rfl ?_
    refine L_x rfl (opx_call0 (num_any d e [f] (by omega) (by omega)) rfl rfl rfl) (fun _ _ => ?_)
    refine L_emp ?_
    refine L_v (opv_assign rfl) rfl ?_
    refine L_nil ?_
    refine K_then ?_
    refine J_seq ?_
    refine J_region ?_
    refine L_v (opv_move rfl) rfl ?_
    refine L_v (opv_move rfl) rfl ?_
    refine L_x rfl (opx_call0 (RSource_any (num2 d e : Nat) (j : Nat)) rfl rfl rfl) (fun _ _ => ?_)
    refine L_emp ?_
    refine L_v (opv_move rfl) rfl ?_
    refine L_v (opv_extract (v := .string (txe (sou (num2 d e : Nat) (j : Nat)))) rfl rfl) rfl ?_
    refine L_v (opv_extract (v := .int .i64 (sou (num2 d e : Nat) (j : Nat)).2) rfl rfl) rfl ?_
    refine L_v (opv_assign rfl) rfl ?_
    refine L_v (opv_assign rfl) rfl ?_
    refine L_nil ?_
    refine K_then ?_
    refine J_seq ?_
    refine J_region ?_
    refine L_v (opv_move rfl) rfl ?_
    first
      | refine L_v (opv_eql rfl rfl) rfl ?_
      | refine L_v (opv_eqlS rfl rfl) rfl ?_
      | refine L_v (opv_eqlNil rfl rfl) rfl ?_
      | refine L_v (opv_eqlB rfl rfl) rfl ?_
    refine L_v (opv_move rfl) rfl ?_
    refine L_gt rfl rfl (fun h2 => ?_) (fun h2 => ?_) (fun _ h => by cases h; rfl)
    · refine L_v (opv_move rfl) rfl ?_
      refine L_gt_on h2 rfl rfl ?_
      refine L_v (opv_move rfl) rfl ?_
      refine L_gt_on h2 rfl rfl ?_
      first
        | refine L_v (opv_eql rfl rfl) rfl ?_
        | refine L_v (opv_eqlS rfl rfl) rfl ?_
        | refine L_v (opv_eqlNil rfl rfl) rfl ?_
        | refine L_v (opv_eqlB rfl rfl) rfl ?_
      refine L_v (opv_pick_t rfl h2 rfl) rfl ?_
      refine L_nil ?_
      refine K_then ?_
      refine J_cond rfl (fun h3 => ?_) (fun h3 => ?_)
      · refine J_seq ?_
        refine J_region ?_
        refine L_v (opv_move rfl) rfl ?_
        refine L_v (opv_move rfl) rfl ?_
        refine L_v (opv_assign rfl) rfl ?_
        refine L_v (opv_assign rfl) rfl ?_
        refine L_v (opv_assign rfl) rfl ?_
        refine L_nil ?_
        refine K_then ?_
        refine J_ret ?_
        refine K_block_ret ?_
        refine K_then_ret ?_
        refine K_then_ret ?_
        refine K_block_ret ?_
        refine K_then_ret ?_
        exact K_ret3 rfl rfl rfl rfl () trivial (by rw [rofP_at (by omega) (yes_t (sou_adr _ _) hb (by assumption) (by assumption)) hj.2]) (Ent.of (emp_sep _).symm)
      · refine J_skip ?_
        refine K_block ?_
        refine K_then ?_
        refine J_region ?_
        refine L_v (opv_move rfl) rfl ?_
        first
          | refine L_v (opv_add64 rfl rfl (by omega)) rfl ?_
          | refine L_v (opv_addS rfl rfl (by omega)) rfl ?_
          | refine L_v (opv_add rfl rfl) rfl ?_
        refine L_v (opv_assign rfl) rfl ?_
        refine L_nil ?_
        exact K_loop ((j + 1)) ⟨by omega, fun i hi => by
            rcases (show i < j ∨ i = j by omega) with h | rfl
            · exact hj.2 i h
            · exact (no_t (by first | exact .inl (by assumption) | exact .inr (by assumption)))⟩ (by omega) ⟨rfl, rfl, trivial⟩ (Ent.refl _)
    · refine L_gt_off h2 rfl rfl ?_ (fun _ h => by cases h; rfl)
      refine L_gt_off h2 rfl rfl ?_ (fun _ h => by cases h; rfl)
      refine L_v (opv_pick_f rfl h2 rfl) rfl ?_
      refine L_nil ?_
      refine K_then ?_
      refine J_cond_false rfl ?_
      refine J_skip ?_
      refine K_block ?_
      refine K_then ?_
      refine J_region ?_
      refine L_v (opv_move rfl) rfl ?_
      first
        | refine L_v (opv_add64 rfl rfl (by omega)) rfl ?_
        | refine L_v (opv_addS rfl rfl (by omega)) rfl ?_
        | refine L_v (opv_add rfl rfl) rfl ?_
      refine L_v (opv_assign rfl) rfl ?_
      refine L_nil ?_
      exact K_loop ((j + 1)) ⟨by omega, fun i hi => by
          rcases (show i < j ∨ i = j by omega) with h | rfl
          · exact hj.2 i h
          · exact (no_t (by first | exact .inl (by assumption) | exact .inr (by assumption)))⟩ (by omega) ⟨rfl, rfl, trivial⟩ (Ent.refl _)
  · refine J_exit ?_
    refine K_then_exit ?_
    refine K_then_exit ?_
    refine K_block_here ?_
    refine K_then ?_
    refine J_seq ?_
    refine J_region ?_
    refine L_v (opv_assign rfl) rfl ?_
    refine L_v (opv_assign rfl) rfl ?_
    refine L_v (opv_assign rfl) rfl ?_
    refine L_nil ?_
    refine K_then ?_
    refine J_ret ?_
    exact K_ret3 rfl rfl rfl rfl () trivial (by rw [rofP_no (fun i hi => hj.2 i (by omega))]) (Ent.of (emp_sep _).symm)

theorem RWhose_any (c d e f : Nat) (hb : Bys 4 [c, d, e, f]) : FSpec Tryd.prog 27 #[.string (tx [c, d, e, f])] (emp) (fun _ : Unit => True) (fun _ => .tuple #[.int .i64 (whP [c, d, e, f] (num2 d e) f (num2 e f)).1, .int .i64 (whP [c, d, e, f] (num2 d e) f (num2 e f)).2.1, .int .i64 (whP [c, d, e, f] (num2 d e) f (num2 e f)).2.2.1, .int .i64 (whP [c, d, e, f] (num2 d e) f (num2 e f)).2.2.2]) (fun _ => emp) := by
  refine FSpec.enter' Tryd.func27 rfl Tryd.ntmps27 rfl fun σ F => ?_
  refine J_emp ?_
  have hq : c < 256 ∧ d < 256 ∧ e < 256 ∧ f < 256 := by have := hb.2; simp at this; omega
  refine J_seq ?_
  refine J_region ?_
  refine L_v (opv_assign rfl) rfl ?_
  refine L_v (opv_assign rfl) rfl ?_
  refine L_v (opv_assign rfl) rfl ?_
  refine L_v (opv_assign rfl) rfl ?_
  refine L_nil ?_
  refine K_then ?_
  refine J_seq ?_
  refine J_quiet Tryd.mixed (by kernel_rfl) ?_
  refine Q_v (opv_move rfl) rfl ?_
  refine Q_v ((opv_sliceTx [c, d, e, f] rfl rfl (by simp)).as (v' := .string (tx [d, e, f])) rfl) rfl ?_
  refine Q_call (num_any d e [f] (by omega) (by omega)) rfl rfl (fun _ _ => rfl) (fun _ _ => Ent.refl _) rfl ?_
  refine Q_v (opv_move rfl) rfl ?_
  refine Q_v ((opv_indexS rfl rfl (by rw [tx_size]; simp; try omega)).as (v' := .int .u8 ((f : Nat) : Int)) (congrArg _ (byt_tx (l := [c, d, e, f]) (i := 3) rfl (by omega)))) rfl ?_
  refine Q_v ((opv_convW rfl (Go.IntWalk.i64_in _ (by omega))).as (v' := .int .i64 ((f : Nat) : Int)) rfl) rfl ?_
  refine Q_call (RPart_any (num2 d e : Nat) (f : Nat)) rfl rfl (fun _ _ => rfl) (fun _ _ => Ent.refl _) rfl ?_
  refine Q_v (opv_move rfl) rfl ?_
  refine Q_v (opv_extract (v := .string (txe (prt (num2 d e : Nat) (f : Nat)))) rfl rfl) rfl ?_
  refine Q_v (opv_extract (v := .int .i64 (prt (num2 d e : Nat) (f : Nat)).2) rfl rfl) rfl ?_
  refine Q_v (opv_assign rfl) rfl ?_
  refine Q_v (opv_assign rfl) rfl ?_
  refine QL_nil ?_
  refine K_then ?_
  refine J_seq ?_
  refine J_seq ?_
  refine J_region ?_
  refine L_v (opv_move rfl) rfl ?_
  first
    | refine L_v (opv_eql rfl rfl) rfl ?_
    | refine L_v (opv_eqlS rfl rfl) rfl ?_
    | refine L_v (opv_eqlNil rfl rfl) rfl ?_
    | refine L_v (opv_eqlB rfl rfl) rfl ?_
  refine L_v (opv_move rfl) rfl ?_
  refine L_gt rfl rfl (fun h1 => ?_) (fun h1 => ?_) (fun _ h => by cases h; rfl)
  · refine L_v (opv_move rfl) rfl ?_
    refine L_gt_on h1 rfl rfl ?_
    refine L_v (opv_move rfl) rfl ?_
    refine L_gt_on h1 rfl rfl ?_
    first
      | refine L_v (opv_eql rfl rfl) rfl ?_
      | refine L_v (opv_eqlS rfl rfl) rfl ?_
      | refine L_v (opv_eqlNil rfl rfl) rfl ?_
      | refine L_v (opv_eqlB rfl rfl) rfl ?_
    refine L_v (opv_pick_t rfl h1 rfl) rfl ?_
    refine L_nil ?_
    refine K_then ?_
    refine J_cond rfl (fun h2 => ?_) (fun h2 => ?_)
    · refine J_seq ?_
      refine J_quiet Tryd.mixed (by kernel_rfl) ?_
      refine Q_v (opv_move rfl) rfl ?_
      refine Q_v ((opv_sliceTx [c, d, e, f] rfl rfl (by simp)).as (v' := .string (tx [d, e, f])) rfl) rfl ?_
      refine Q_call (num_any d e [f] (by omega) (by omega)) rfl rfl (fun _ _ => rfl) (fun _ _ => Ent.refl _) rfl ?_
      refine Q_v (opv_move rfl) rfl ?_
      refine Q_v ((opv_indexS rfl rfl (by rw [tx_size]; simp; try omega)).as (v' := .int .u8 ((f : Nat) : Int)) (congrArg _ (byt_tx (l := [c, d, e, f]) (i := 3) rfl (by omega)))) rfl ?_
      refine Q_v ((opv_convW rfl (Go.IntWalk.i64_in _ (by omega))).as (v' := .int .i64 ((f : Nat) : Int)) rfl) rfl ?_
      refine Q_v (opv_assign rfl) rfl ?_
      refine Q_v (opv_assign rfl) rfl ?_
      refine Q_v (opv_assign rfl) rfl ?_
      refine Q_v (opv_assign rfl) rfl ?_
      refine QL_nil ?_
      refine K_then ?_
      refine J_ret ?_
      refine K_then_ret ?_
      exact K_ret4 rfl rfl rfl rfl rfl () trivial (by rw [whP_1 (yes_t (prt_adr _ _) hb (by assumption) (by assumption))]) (Ent.of (emp_sep _).symm)
    · refine J_skip ?_
      refine K_then ?_
      refine J_seq ?_
      refine J_region ?_
      refine L_v (opv_move rfl) rfl ?_
      refine L_v ((opv_sliceTx [c, d, e, f] rfl rfl (by simp)).as (v' := .string (tx [e, f])) rfl) rfl ?_
      refine L_x rfl (opx_call0 (num_any e f [] (by omega) (by omega)) rfl rfl rfl) (fun _ _ => ?_)
      refine L_emp ?_
      refine L_x rfl (opx_call0 (RGroup_any (num2 e f : Nat)) rfl rfl rfl) (fun _ _ => ?_)
      refine L_emp ?_
      refine L_v (opv_move rfl) rfl ?_
      refine L_v (opv_extract (v := .string (txe (grp (num2 e f : Nat)))) rfl rfl) rfl ?_
      refine L_v (opv_extract (v := .int .i64 (grp (num2 e f : Nat)).2) rfl rfl) rfl ?_
      refine L_v (opv_assign rfl) rfl ?_
      refine L_v (opv_assign rfl) rfl ?_
      refine L_nil ?_
      refine K_then ?_
      refine J_seq ?_
      refine J_seq ?_
      refine J_region ?_
      refine L_v (opv_move rfl) rfl ?_
      first
        | refine L_v (opv_eql rfl rfl) rfl ?_
        | refine L_v (opv_eqlS rfl rfl) rfl ?_
        | refine L_v (opv_eqlNil rfl rfl) rfl ?_
        | refine L_v (opv_eqlB rfl rfl) rfl ?_
      refine L_v (opv_move rfl) rfl ?_
      refine L_gt rfl rfl (fun h3 => ?_) (fun h3 => ?_) (fun _ h => by cases h; rfl)
      · refine L_v (opv_move rfl) rfl ?_
        refine L_gt_on h3 rfl rfl ?_
        refine L_v (opv_move rfl) rfl ?_
        refine L_gt_on h3 rfl rfl ?_
        first
          | refine L_v (opv_eql rfl rfl) rfl ?_
          | refine L_v (opv_eqlS rfl rfl) rfl ?_
          | refine L_v (opv_eqlNil rfl rfl) rfl ?_
          | refine L_v (opv_eqlB rfl rfl) rfl ?_
        refine L_v (opv_pick_t rfl h3 rfl) rfl ?_
        refine L_nil ?_
        refine K_then ?_
        refine J_cond rfl (fun h4 => ?_) (fun h4 => ?_)
        · refine J_seq ?_
          refine J_region ?_
          refine L_v (opv_move rfl) rfl ?_
          refine L_v ((opv_sliceTx [c, d, e, f] rfl rfl (by simp)).as (v' := .string (tx [e, f])) rfl) rfl ?_
          refine L_x rfl (opx_call0 (num_any e f [] (by omega) (by omega)) rfl rfl rfl) (fun _ _ => ?_)
          refine L_emp ?_
          refine L_v (opv_assign rfl) rfl ?_
          refine L_v (opv_assign rfl) rfl ?_
          refine L_v (opv_assign rfl) rfl ?_
          refine L_v (opv_assign rfl) rfl ?_
          refine L_nil ?_
          refine K_then ?_
          refine J_ret ?_
          refine K_then_ret ?_
          exact K_ret4 rfl rfl rfl rfl rfl () trivial (by rw [whP_2 (no_t (by first | exact .inl (by assumption) | exact .inr (by assumption))) (yes_t (grp_adr _) hb (by assumption) (by assumption))]) (Ent.of (emp_sep _).symm)
        · refine J_skip ?_
          refine K_then ?_
          refine J_seq ?_
          refine J_region ?_
          refine L_v (opv_assign rfl) rfl ?_
          refine L_v (opv_assign rfl) rfl ?_
          refine L_v (opv_assign rfl) rfl ?_
          refine L_v (opv_assign rfl) rfl ?_
          refine L_nil ?_
          refine K_then ?_
          refine J_ret ?_
          exact K_ret4 rfl rfl rfl rfl rfl () trivial (by rw [whP_3 (no_t (by first | exact .inl (by assumption) | exact .inr (by assumption))) (no_t (by first | exact .inl (by assumption) | exact .inr (by assumption)))]) (Ent.of (emp_sep _).symm)
      · refine L_gt_off h3 rfl rfl ?_ (fun _ h => by cases h; rfl)
        refine L_gt_off h3 rfl rfl ?_ (fun _ h => by cases h; rfl)
        refine L_v (opv_pick_f rfl h3 rfl) rfl ?_
        refine L_nil ?_
        refine K_then ?_
        refine J_cond_false rfl ?_
        refine J_skip ?_
        refine K_then ?_
        refine J_seq ?_
        refine J_region ?_
        refine L_v (opv_assign rfl) rfl ?_
        refine L_v (opv_assign rfl) rfl ?_
        refine L_v (opv_assign rfl) rfl ?_
        refine L_v (opv_assign rfl) rfl ?_
        refine L_nil ?_
        refine K_then ?_
        refine J_ret ?_
        exact K_ret4 rfl rfl rfl rfl rfl () trivial (by rw [whP_3 (no_t (by first | exact .inl (by assumption) | exact .inr (by assumption))) (no_t (by first | exact .inl (by assumption) | exact .inr (by assumption)))]) (Ent.of (emp_sep _).symm)
  · refine L_gt_off h1 rfl rfl ?_ (fun _ h => by cases h; rfl)
    refine L_gt_off h1 rfl rfl ?_ (fun _ h => by cases h; rfl)
    refine L_v (opv_pick_f rfl h1 rfl) rfl ?_
    refine L_nil ?_
    refine K_then ?_
    refine J_cond_false rfl ?_
    refine J_skip ?_
    refine K_then ?_
    refine J_seq ?_
    refine J_region ?_
    refine L_v (opv_move rfl) rfl ?_
    refine L_v ((opv_sliceTx [c, d, e, f] rfl rfl (by simp)).as (v' := .string (tx [e, f])) rfl) rfl ?_
    refine L_x rfl (opx_call0 (num_any e f [] (by omega) (by omega)) rfl rfl rfl) (fun _ _ => ?_)
    refine L_emp ?_
    refine L_x rfl (opx_call0 (RGroup_any (num2 e f : Nat)) rfl rfl rfl) (fun _ _ => ?_)
    refine L_emp ?_
    refine L_v (opv_move rfl) rfl ?_
    refine L_v (opv_extract (v := .string (txe (grp (num2 e f : Nat)))) rfl rfl) rfl ?_
    refine L_v (opv_extract (v := .int .i64 (grp (num2 e f : Nat)).2) rfl rfl) rfl ?_
    refine L_v (opv_assign rfl) rfl ?_
    refine L_v (opv_assign rfl) rfl ?_
    refine L_nil ?_
    refine K_then ?_
    refine J_seq ?_
    refine J_seq ?_
    refine J_region ?_
    refine L_v (opv_move rfl) rfl ?_
    first
      | refine L_v (opv_eql rfl rfl) rfl ?_
      | refine L_v (opv_eqlS rfl rfl) rfl ?_
      | refine L_v (opv_eqlNil rfl rfl) rfl ?_
      | refine L_v (opv_eqlB rfl rfl) rfl ?_
    refine L_v (opv_move rfl) rfl ?_
    refine L_gt rfl rfl (fun h5 => ?_) (fun h5 => ?_) (fun _ h => by cases h; rfl)
    · refine L_v (opv_move rfl) rfl ?_
      refine L_gt_on h5 rfl rfl ?_
      refine L_v (opv_move rfl) rfl ?_
      refine L_gt_on h5 rfl rfl ?_
      first
        | refine L_v (opv_eql rfl rfl) rfl ?_
        | refine L_v (opv_eqlS rfl rfl) rfl ?_
        | refine L_v (opv_eqlNil rfl rfl) rfl ?_
        | refine L_v (opv_eqlB rfl rfl) rfl ?_
      refine L_v (opv_pick_t rfl h5 rfl) rfl ?_
      refine L_nil ?_
      refine K_then ?_
      refine J_cond rfl (fun h6 => ?_) (fun h6 => ?_)
      · refine J_seq ?_
        refine J_region ?_
        refine L_v (opv_move rfl) rfl ?_
        refine L_v ((opv_sliceTx [c, d, e, f] rfl rfl (by simp)).as (v' := .string (tx [e, f])) rfl) rfl ?_
        refine L_x rfl (opx_call0 (num_any e f [] (by omega) (by omega)) rfl rfl rfl) (fun _ _ => ?_)
        refine L_emp ?_
        refine L_v (opv_assign rfl) rfl ?_
        refine L_v (opv_assign rfl) rfl ?_
        refine L_v (opv_assign rfl) rfl ?_
        refine L_v (opv_assign rfl) rfl ?_
        refine L_nil ?_
        refine K_then ?_
        refine J_ret ?_
        refine K_then_ret ?_
        exact K_ret4 rfl rfl rfl rfl rfl () trivial (by rw [whP_2 (no_t (by first | exact .inl (by assumption) | exact .inr (by assumption))) (yes_t (grp_adr _) hb (by assumption) (by assumption))]) (Ent.of (emp_sep _).symm)
      · refine J_skip ?_
        refine K_then ?_
        refine J_seq ?_
        refine J_region ?_
        refine L_v (opv_assign rfl) rfl ?_
        refine L_v (opv_assign rfl) rfl ?_
        refine L_v (opv_assign rfl) rfl ?_
        refine L_v (opv_assign rfl) rfl ?_
        refine L_nil ?_
        refine K_then ?_
        refine J_ret ?_
        exact K_ret4 rfl rfl rfl rfl rfl () trivial (by rw [whP_3 (no_t (by first | exact .inl (by assumption) | exact .inr (by assumption))) (no_t (by first | exact .inl (by assumption) | exact .inr (by assumption)))]) (Ent.of (emp_sep _).symm)
    · refine L_gt_off h5 rfl rfl ?_ (fun _ h => by cases h; rfl)
      refine L_gt_off h5 rfl rfl ?_ (fun _ h => by cases h; rfl)
      refine L_v (opv_pick_f rfl h5 rfl) rfl ?_
      refine L_nil ?_
      refine K_then ?_
      refine J_cond_false rfl ?_
      refine J_skip ?_
      refine K_then ?_
      refine J_seq ?_
      refine J_region ?_
      refine L_v (opv_assign rfl) rfl ?_
      refine L_v (opv_assign rfl) rfl ?_
      refine L_v (opv_assign rfl) rfl ?_
      refine L_v (opv_assign rfl) rfl ?_
      refine L_nil ?_
      refine K_then ?_
      refine J_ret ?_
      exact K_ret4 rfl rfl rfl rfl rfl () trivial (by rw [whP_3 (no_t (by first | exact .inl (by assumption) | exact .inr (by assumption))) (no_t (by first | exact .inl (by assumption) | exact .inr (by assumption)))]) (Ent.of (emp_sep _).symm)

end Go.Proofs.YtkkoepnljofhpaaDoor
