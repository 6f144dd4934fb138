/- A contract of Bits of a reader, proved by a walk over its code; it is used by the texts that import this one. -/
import Derived.Test.YtdmlcnecildliaaBu
import Derived.Test.YtdmlcnecildliaaY
import Derived.Test.YtdmlcnecildliaaZ
import Derived.Test.YtdmlcnecildliaaH
namespace Go.Proofs.Ytdmlcnecildliaa
open Go.SLA
set_option maxRecDepth 100000
set_option linter.unusedVariables false
set_option linter.unusedSimpArgs false
attribute [local irreducible] J L K QL Rg FSpec OpV OpX Rd Back

/-- Numbers of so many bits out of one number, of which so many bits are left. -/
def unp (n : Nat) : Nat → List Int → List Int
  | _, [] => []
  | left, w :: ws => ((n / 2 ^ (left - w.toNat) % 2 ^ w.toNat : Nat) : Int) :: unp n (left - w.toNat) ws
theorem unp_drop {n left k : Nat} {ws : List Int} {v : Int} (hv : ws[k]? = some v) : unp n left (ws.drop k) = ((n / 2 ^ (left - v.toNat) % 2 ^ v.toNat : Nat) : Int) :: unp n (left - v.toNat) (ws.drop (k + 1)) := by
  have h1 : k < ws.length := by
    rcases Nat.lt_or_ge k ws.length with h | h
    · exact h
    · rw [List.getElem?_eq_none h] at hv; cases hv
  rw [List.drop_eq_getElem_cons h1]
  rw [List.getElem?_eq_getElem h1] at hv
  simp only [Option.some.injEq] at hv
  rw [hv, unp]
theorem shr_n {n j : Nat} (hj : j ≤ 64) : Value.int .u64 ((n : Int) / 2 ^ (min (Int.toNat (j : Int)) IntKind.u64.bits)) = .int .u64 ((n / 2 ^ j : Nat) : Int) := by
  have e : min (Int.toNat (j : Int)) IntKind.u64.bits = j := by have : IntKind.u64.bits = 64 := rfl; omega
  have h5 : (2 : Int) ^ j = ((2 ^ j : Nat) : Int) := by rw [Int.natCast_pow]; rfl
  rw [e, h5, ← Int.natCast_ediv]
theorem one_shl {w : Nat} (hw : w ≤ 32) : Value.int .u64 (IntKind.u64.wrap ((1 : Int) * 2 ^ (min (Int.toNat (w : Int)) IntKind.u64.bits))) = .int .u64 ((2 ^ w : Nat) : Int) := by
  have e : min (Int.toNat (w : Int)) IntKind.u64.bits = w := by have : IntKind.u64.bits = 64 := rfl; omega
  have h2 : 2 ^ w ≤ 2 ^ 32 := Nat.pow_le_pow_right (by decide) hw
  have h4 : 2 ^ 32 = 4294967296 := by decide
  have h5 : (2 : Int) ^ w = ((2 ^ w : Nat) : Int) := by rw [Int.natCast_pow]; rfl
  rw [h4] at h2
  rw [e, h5, Int.one_mul]
  generalize 2 ^ w = z at h2 ⊢
  rw [Go.IntWalk.u64_in _ (by omega)]
theorem and_w {a w : Nat} (ha : a < 18446744073709551616) (hw : w ≤ 32) : Value.int .u64 (IntKind.u64.wrap (((BitVec.ofInt IntKind.u64.bits (a : Int) &&& BitVec.ofInt IntKind.u64.bits (((2 ^ w : Nat) : Int) - 1)).toNat : Nat) : Int)) = .int .u64 ((a % 2 ^ w : Nat) : Int) := by
  have h5 : ((2 ^ w : Nat) : Int) = (2 : Int) ^ w := by rw [Int.natCast_pow]; rfl
  have := low_bits (w := 64) (m := w) (a := (a : Int)) (by omega) ⟨by omega, by show (a : Int) < 18446744073709551616; omega⟩
  have e : ((BitVec.ofInt IntKind.u64.bits (a : Int) &&& BitVec.ofInt IntKind.u64.bits (((2 ^ w : Nat) : Int) - 1)).toNat : Int) = (a : Int) % 2 ^ w := by rw [h5]; exact this
  rw [e, ← h5, ← Int.natCast_emod, Go.IntWalk.u64_in _ (by have := Nat.mod_le a (2 ^ w); omega)]
theorem number_ok (p : Nat) (s : ByteArray) (c : Nat) (hc : c ≤ 4) (hs : c ≤ s.size) : FSpec Try.prog 51 #[.pointer (some (ad p 0)), .int .i64 (8 * c : Nat)] (cel p [.string s, .int .i64 0] 85) (fun _ : Unit => True) (fun _ => .int .u32 (numB (s.extract 0 c) c : Nat)) (fun _ => cel p [.string (s.extract c s.size), .int .i64 0] 85) := by
  have := number_spec p s 0 c hc
  rw [textS_ok s c hs] at this
  rw [ext_size s 0 c hs] at this
  exact this

theorem RBits_go (p : Nat) (s : ByteArray) (R0 : HProp) (A : Option Addr) (c1 : Nat) (ws : List Int) (hR : RdS R0 encZ 1 A ws) (hn : ws.length ≤ 1000000) (hw : ∀ v ∈ ws, -9223372036854775808 ≤ v ∧ v ≤ 9223372036854775807) (c : Nat) (hc : 1 ≤ c ∧ c ≤ 4) (hcw : sumW ws = ((8 * c : Nat) : Int)) (hcs : sumGo 0 ws = some ((8 * c : Nat) : Int)) (hs : c ≤ s.size) : FSpec Try.prog 39 #[.pointer (some (ad p 0)), .slice A ws.length c1] ((sep (cel p [.string s, .int .i64 0] 85) (R0))) (fun r : Option Addr × Nat => True) (fun r => .slice r.1 (unp (numB (s.extract 0 c) c) (8 * c) ws).length r.2) (fun r => (sep (Own 3 1 (.slice r.1 (unp (numB (s.extract 0 c) c) (8 * c) ws).length r.2) (unp (numB (s.extract 0 c) c) (8 * c) ws).length ((unp (numB (s.extract 0 c) c) (8 * c) ws).flatMap encZ)) (sep (cel p [.string (s.extract c s.size), .int .i64 0] 85) (R0)))) := by
  have hlt := numB_lt (s.extract 0 c) c
  have hp4 : 256 ^ c ≤ 4294967296 := Nat.le_trans (Nat.pow_le_pow_right (by decide) hc.2) (by decide)
  refine FSpec.enter' Try.func39 rfl Try.ntmps39 rfl fun σ F => ?_
  refine J_imp (sep (Own 3 1 (.slice none 0 0) ([] : List Int).length (([] : List Int).flatMap encZ)) (sep (cel p [.string s, .int .i64 0] 85) (sep (R0) (F)))) (Ent.trans (Ent.of (sep_assoc _ _ _)) (Ent.trans (Ent.of (emp_sep _).symm) ((Own.nil 3 1).frame _))) ?_
  refine J_seq ?_
  refine J_region ?_
  refine L_v (opv_assign rfl) rfl ?_
  refine L_nil ?_
  refine K_then ?_
  refine J_seq ?_
  refine J_seq ?_
  refine J_region ?_
  refine L_v (opv_move rfl) rfl ?_
  refine L_x rfl (opx_call0 (Err_spec p s 0) rfl rfl rfl) (fun _ _ => ?_)
  refine L_v ((opv_neq rfl rfl).bool_f (by decide)) rfl ?_
  refine L_nil ?_
  refine K_then ?_
  refine J_cond_false rfl ?_
  refine J_skip ?_
  refine K_then ?_
  refine J_seq ?_
  refine J_region ?_
  refine L_v (opv_move rfl) rfl ?_
  refine L_x rfl (opx_call0 (sum_spec R0 A c1 ws hR (by omega) hw) rfl rfl rfl) (fun _ _ => ?_)
  rw [hcw]
  refine L_v (opv_assign rfl) rfl ?_
  refine L_nil ?_
  refine K_then ?_
  refine J_seq ?_
  refine J_seq ?_
  refine J_region ?_
  refine L_v (opv_move rfl) rfl ?_
  refine L_v ((opv_eql rfl rfl).bool_f (by omega)) rfl ?_
  refine L_nil ?_
  refine K_then ?_
  refine J_cond_false rfl ?_
  refine J_skip ?_
  refine K_then ?_
  refine J_seq ?_
  refine J_region ?_
  refine L_v (opv_move rfl) rfl ?_
  refine L_v (opv_move rfl) rfl ?_
  refine L_x rfl (opx_call0 (number_ok p s c hc.2 hs) rfl rfl rfl) (fun _ _ => ?_)
  first
    | refine L_v (opv_convW rfl (Go.IntWalk.u64_in _ (by omega))) rfl ?_
    | refine L_v (opv_convert rfl) rfl ?_
  refine L_v (opv_assign rfl) rfl ?_
  refine L_nil ?_
  refine K_then ?_
  refine J_seq ?_
  refine J_seq ?_
  refine J_region ?_
  refine L_v (opv_move rfl) rfl ?_
  refine L_v (opv_nilCheck rfl) rfl ?_
  first
    | refine L_v (opv_fieldAddr0 rfl) rfl ?_
    | refine L_v (opv_fieldAddr rfl) rfl ?_
  refine L_v (opv_load rfl (Rd.look rfl)) rfl ?_
  refine L_v ((opv_neq rfl rfl).bool_f (by decide)) rfl ?_
  refine L_nil ?_
  refine K_then ?_
  refine J_cond_false rfl ?_
  refine J_skip ?_
  refine K_then ?_
  refine J_seq ?_
  refine J_region ?_
  refine L_v (opv_assign rfl) rfl ?_
  refine L_nil ?_
  refine K_then ?_
  refine J_seq ?_
  refine J_seq ?_
  refine J_region ?_
  refine L_v (opv_move rfl) rfl ?_
  first
    | refine L_v (opv_lenL rfl) rfl ?_
    | refine L_v (opv_lenS rfl) rfl ?_
  refine L_v (opv_move rfl) rfl ?_
  refine L_nil ?_
  refine K_then ?_
  refine J_block ?_
  refine J_loop (X := Nat × Nat × List Int × (Option Addr × Nat)) (fun y => [(5, .int .i64 (y.2.1 : Nat)), (6, .int .u64 ((numB (s.extract 0 c) c) : Nat)), (7, .slice y.2.2.2.1 y.2.2.1.length y.2.2.2.2), (29, .slice A ws.length c1), (30, .int .i64 ws.length), (31, .int .i64 y.1)]) (fun y => (sep (Own 3 1 (.slice y.2.2.2.1 y.2.2.1.length y.2.2.2.2) y.2.2.1.length (y.2.2.1.flatMap encZ)) (sep (cel p [.string (s.extract c s.size), .int .i64 0] 85) (sep (R0) (F))))) (fun y => y.1 ≤ ws.length ∧ y.2.2.1 ++ unp (numB (s.extract 0 c) c) y.2.1 (ws.drop y.1) = unp (numB (s.extract 0 c) c) (8 * c) ws ∧ sumGo ((8 * c - y.2.1 : Nat) : Int) (ws.drop y.1) = some ((8 * c : Nat) : Int) ∧ y.2.1 ≤ 8 * c ∧ y.2.2.1.length ≤ y.1) (fun y => ws.length - y.1) ((0, 8 * c, [], (none, 0))) ⟨Nat.zero_le _, rfl, by rw [Nat.sub_self]; exact hcs, Nat.le_refl _, Nat.le_refl _⟩ ⟨rfl, rfl, rfl, rfl, rfl, rfl, trivial⟩ Ent.take (fun y hy => ?_)
  obtain ⟨hk, hy, hsum, hlc, hql⟩ := hy
  refine J_seq ?_
  refine J_region ?_
  refine L_v (opv_lss rfl rfl) rfl ?_
  refine L_nil ?_
  refine K_then ?_
  refine J_seq ?_
  refine J_cond rfl (fun h1 => ?_) (fun h1 => ?_)
  · have hkl : y.1 < ws.length := by omega
    obtain ⟨v, hv⟩ : ∃ v, ws[y.1]? = some v := ⟨_, List.getElem?_eq_getElem hkl⟩
    obtain ⟨b, o, rfl⟩ := hR.nonnil y.1 hkl
    have hsd := sumGo_drop (n := ((8 * c - y.2.1 : Nat) : Int)) hv
    have hud := unp_drop (n := (numB (s.extract 0 c) c)) (left := y.2.1) hv
    have hv1 : 1 ≤ v ∧ v ≤ 32 := by (rw [hsum] at hsd; split at hsd; cases hsd; omega)
    rw [if_neg (by omega), hsum] at hsd
    have htv := sumGo_le hsd.symm
    obtain ⟨w, rfl⟩ : ∃ w : Nat, v = w := ⟨v.toNat, by omega⟩
    rw [Int.toNat_natCast] at hud
    have hdl : (numB (s.extract 0 c) c) / 2 ^ (y.2.1 - w) ≤ (numB (s.extract 0 c) c) := Nat.div_le_self _ _
    have hml : (numB (s.extract 0 c) c) / 2 ^ (y.2.1 - w) % 2 ^ w ≤ (numB (s.extract 0 c) c) / 2 ^ (y.2.1 - w) := Nat.mod_le _ _
    have h2w : 1 ≤ 2 ^ w ∧ 2 ^ w ≤ 4294967296 := ⟨Nat.one_le_two_pow, Nat.le_trans (Nat.pow_le_pow_right (by decide) (show w ≤ 32 by omega)) (by decide)⟩
    refine J_skip ?_
    refine K_then ?_
    refine J_seq ?_
    refine J_block ?_
    refine J_seq ?_
    refine J_region ?_
    first
      | refine L_v (opv_indexAddr rfl rfl (by omega)) rfl ?_
      | refine L_v (opv_indexAddrA rfl rfl (by omega)) rfl ?_
    refine L_v (opv_load rfl (Rd.of_take (S := R0) (hR.rd b o rfl y.1 (w : Int) 0 _ hv rfl))) rfl ?_
    refine L_v (opv_assign rfl) rfl ?_
    refine L_nil ?_
    refine K_then ?_
    refine J_seq ?_
    refine J_region ?_
    refine L_v (opv_move rfl) rfl ?_
    refine L_v (opv_move rfl) rfl ?_
    refine L_v ((opv_sub64 rfl rfl (by omega)).as (v' := .int .i64 ((y.2.1 - w : Nat) : Int)) (congrArg (Value.int .i64) (by omega))) rfl ?_
    refine L_v (opv_assign rfl) rfl ?_
    refine L_nil ?_
    refine K_then ?_
    refine J_region ?_
    refine L_v (opv_move rfl) rfl ?_
    refine L_v (opv_move rfl) rfl ?_
    refine L_v (opv_move rfl) rfl ?_
    first
      | refine L_v (opv_convW rfl (Go.IntWalk.u64_in _ (by omega))) rfl ?_
      | refine L_v (opv_convert rfl) rfl ?_
    refine L_v ((opv_shrP rfl rfl (by omega)).as (shr_n (by omega))) rfl ?_
    refine L_v (opv_move rfl) rfl ?_
    first
      | refine L_v (opv_convW rfl (Go.IntWalk.u64_in _ (by omega))) rfl ?_
      | refine L_v (opv_convert rfl) rfl ?_
    refine L_v ((opv_shl rfl rfl (by omega)).as (one_shl (by omega))) rfl ?_
    refine L_v (opv_subW rfl rfl (Go.IntWalk.u64_in _ (by omega))) rfl ?_
    refine L_v ((opv_and rfl rfl).as (and_w (by omega) (by omega))) rfl ?_
    refine L_v (opv_convW rfl (Go.IntWalk.i64_in _ (by omega))) rfl ?_
    refine L_x rfl (opx_buildSlice1 (m := 1) rfl rfl (by omega) (by omega) rfl) (fun b49 _ => ?_)
    refine L_x rfl (opx_append (m := 1) (B := 8) rfl rfl (Src.lit) rfl (by omega) rfl (by simp [Value.oneCell']) (by unfold maxLen; omega) (by omega) rfl) (fun y50 _ => ?_)
    refine L_v (opv_assign rfl) rfl ?_
    refine L_nil ?_
    refine K_block ?_
    refine K_then ?_
    refine J_region ?_
    first
      | refine L_v (opv_add64 rfl rfl (by omega)) rfl ?_
      | refine L_v (opv_addS rfl rfl (by omega)) rfl ?_
      | refine L_v (opv_add rfl rfl) rfl ?_
    refine L_v (opv_move rfl) rfl ?_
    refine L_nil ?_
    rw [show y.2.2.1.length + 1 = (y.2.2.1 ++ [(((numB (s.extract 0 c) c) / 2 ^ (y.2.1 - w) % 2 ^ w : Nat) : Int)]).length by simp, show y.2.2.1.flatMap encZ ++ [.int .i64 (((numB (s.extract 0 c) c) / 2 ^ (y.2.1 - w) % 2 ^ w : Nat) : Int)] = (y.2.2.1 ++ [(((numB (s.extract 0 c) c) / 2 ^ (y.2.1 - w) % 2 ^ w : Nat) : Int)]).flatMap encZ by simp [encZ]]
    exact K_loop ((y.1 + 1, y.2.1 - w, y.2.2.1 ++ [(((numB (s.extract 0 c) c) / 2 ^ (y.2.1 - w) % 2 ^ w : Nat) : Int)], y50)) ⟨by show y.1 + 1 ≤ _; omega, by rw [← hy, hud, List.append_assoc]; rfl, by show sumGo ((8 * c - (y.2.1 - w) : Nat) : Int) _ = _; rw [hsd]; congr 1; omega, by show y.2.1 - w ≤ _; omega, by show (y.2.2.1 ++ [_]).length ≤ y.1 + 1; rw [List.length_append]; simp only [List.length_cons, List.length_nil]; omega⟩ (by show _ - (y.1 + 1) < _; omega) ⟨rfl, rfl, rfl, rfl, rfl, rfl, trivial⟩ Ent.take
  · refine J_exit ?_
    refine K_then_exit ?_
    refine K_then_exit ?_
    refine K_block_here ?_
    refine K_then ?_
    refine J_seq ?_
    refine J_region ?_
    refine L_v (opv_move rfl) rfl ?_
    refine L_v (opv_assign rfl) rfl ?_
    refine L_nil ?_
    refine K_then ?_
    refine J_ret ?_
    have he : y.1 = ws.length := by omega
    rw [he, List.drop_length, unp, List.append_nil] at hy
    rw [hy]
    exact K_ret1 rfl rfl y.2.2.2 trivial rfl Ent.take


theorem RBits3 (p b : Nat) (s : ByteArray) (hs : 8 ≤ s.size) : FSpec Try.prog 39 #[.pointer (some (ad p 0)), .slice (some (ad b 0)) 3 3] (sep (cel p [.string (s.extract 6 s.size), .int .i64 0] 85) (cel b [.int .i64 2, .int .i64 1, .int .i64 13] 3)) (fun _ : Option Addr × Nat => True) (fun r => .slice r.1 3 r.2) (fun r => (sep (Own 3 1 (.slice r.1 3 r.2) 3 [.int .i64 ((word s 6 / 16384 % 4 : Nat) : Int), .int .i64 ((word s 6 / 8192 % 2 : Nat) : Int), .int .i64 ((word s 6 % 8192 : Nat) : Int)]) (sep (cel p [.string (s.extract 8 s.size), .int .i64 0] 85) (cel b [.int .i64 2, .int .i64 1, .int .i64 13] 3)))) := by
  have h2 : 2 ≤ (s.extract 6 s.size).size := by rw [ext_size _ _ _ (Nat.le_refl _)]; omega
  have := RBits_go p (s.extract 6 s.size) (cel b [.int .i64 2, .int .i64 1, .int .i64 13] 3) (some (ad b 0)) 3 [2, 1, 13] (RdS.lit (b := b) (cells := [.int .i64 2, .int .i64 1, .int .i64 13]) rfl encZ_len) (by decide) (by decide) 2 (by decide) (by decide) (by decide) h2
  have hN : numB ((s.extract 6 s.size).extract 0 2) 2 = word s 6 := by rw [numB_word _ h2, word_ext (by omega), Nat.add_zero]
  have hu : unp (word s 6) (8 * 2) [2, 1, 13] = [((word s 6 / 16384 % 4 : Nat) : Int), ((word s 6 / 8192 % 2 : Nat) : Int), ((word s 6 % 8192 : Nat) : Int)] := by
    show [((word s 6 / 2 ^ 14 % 2 ^ 2 : Nat) : Int), ((word s 6 / 2 ^ 13 % 2 ^ 1 : Nat) : Int), ((word s 6 / 2 ^ 0 % 2 ^ 13 : Nat) : Int)] = _
    rw [show word s 6 / 2 ^ 0 = word s 6 from Nat.div_one _]
  rw [hN, hu, ext_ext] at this
  exact this

end Go.Proofs.Ytdmlcnecildliaa
