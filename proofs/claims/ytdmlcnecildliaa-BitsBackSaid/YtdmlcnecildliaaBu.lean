/- Contracts of functions of the translation, each proved by a walk over its code; they are used by the texts that import this one. -/
import Derived.Test.YtdmlcnecildliaaBs
import Derived.Test.YtdmlcnecildliaaH
namespace Go.Proofs.Ytdmlcnecildliaa
open Go.SLA
set_option maxRecDepth 100000
set_option linter.unusedVariables false
set_option linter.unusedSimpArgs false
attribute [local irreducible] J L K QL Rg FSpec OpV OpX Rd Back

theorem bn_app_l {a b : ByteArray} {i : Nat} (h : i < a.size) : bn (a ++ b) i = bn a i := by
  have : i < a.data.toList.length := by rw [Array.length_toList]; exact h
  unfold bn
  rw [ByteArray.data_append, Array.toList_append, List.getD_eq_getElem?_getD, List.getD_eq_getElem?_getD, List.getElem?_append_left this]
theorem bn_app_r {a b : ByteArray} {i : Nat} (h : a.size ≤ i) : bn (a ++ b) i = bn b (i - a.size) := by
  have e : a.data.toList.length = a.size := by rw [Array.length_toList]; rfl
  have : a.data.toList.length ≤ i := by rw [e]; exact h
  unfold bn
  rw [ByteArray.data_append, Array.toList_append, List.getD_eq_getElem?_getD, List.getD_eq_getElem?_getD, List.getElem?_append_right this, e]
theorem bn_out {a : ByteArray} {i : Nat} (h : a.size ≤ i) : bn a i = 0 := by
  have e : a.data.toList.length = a.size := by rw [Array.length_toList]; rfl
  unfold bn
  rw [List.getD_eq_getElem?_getD, List.getElem?_eq_none (by rw [e]; exact h)]
  rfl
theorem bn_ext {a b : ByteArray} (hs : a.size = b.size) (h : ∀ i, i < a.size → bn a i = bn b i) : a = b := by
  have ea : a.data.toList.length = a.size := by rw [Array.length_toList]; rfl
  have eb : b.data.toList.length = b.size := by rw [Array.length_toList]; rfl
  have e : a.data.toList = b.data.toList := by
    refine List.ext_getElem (by omega) fun i h1 h2 => ?_
    have := h i (by omega)
    unfold bn at this
    rw [List.getD_eq_getElem?_getD, List.getD_eq_getElem?_getD, List.getElem?_eq_getElem h1, List.getElem?_eq_getElem h2] at this
    exact UInt8.toNat_inj.1 this
  cases a; cases b
  simp only at e
  rw [Array.toList_inj.1 e]
theorem ext_size (s : ByteArray) (a b : Nat) (h : b ≤ s.size) : (s.extract a b).size = b - a := by rw [ByteArray.size_extract]; omega
theorem bn_extract {s : ByteArray} {a b i : Nat} (h : a + i < b) (hb : b ≤ s.size) : bn (s.extract a b) i = bn s (a + i) := by
  unfold bn
  have e : s.data.toList.length = s.size := by rw [Array.length_toList]; rfl
  rw [ByteArray.data_extract, List.getD_eq_getElem?_getD, List.getD_eq_getElem?_getD, Array.getElem?_toList, Array.getElem?_toList, Array.getElem?_extract, if_pos (by
    show i < min b s.size - a
    omega)]
theorem bn_be0 (m c : Nat) : bn (be m (c + 1)) 0 = m / 256 ^ c % 256 := by
  rw [be, bn_app_l (by rw [bytesL_size]; exact Nat.one_pos)]
  show (UInt8.ofNat (((m / 256 ^ c % 256 : Nat) : Int)).toNat).toNat = _
  rw [Int.toNat_natCast, UInt8.toNat_ofNat', Nat.mod_eq_of_lt (Nat.mod_lt _ (by decide))]
theorem bn_be1 (m c i : Nat) : bn (be m (c + 1)) (i + 1) = bn (be m c) i := by
  rw [be, bn_app_r (by rw [bytesL_size]; simp), bytesL_size]
  rfl
/-- Two bytes as a number. -/
def word (s : ByteArray) (i : Nat) : Nat := bn s i * 256 + bn s (i + 1)
theorem word_lt (s : ByteArray) (i : Nat) : word s i < 65536 := by
  have := bn_lt s i
  have := bn_lt s (i + 1)
  unfold word
  omega
theorem word_be {m : Nat} (h : m ≤ 65535) : word (be m 2) 0 = m := by
  unfold word
  rw [bn_be0, bn_be1, bn_be0]
  omega
theorem word_app_l {a b : ByteArray} {i : Nat} (h : i + 1 < a.size) : word (a ++ b) i = word a i := by unfold word; rw [bn_app_l (by omega), bn_app_l (by omega)]
theorem word_app_r {a b : ByteArray} {i : Nat} (h : a.size ≤ i) : word (a ++ b) i = word b (i - a.size) := by unfold word; rw [bn_app_r h, bn_app_r (by omega), show i + 1 - a.size = i - a.size + 1 by omega]
theorem be_word {m : Nat} (h : m ≤ 65535) {s : ByteArray} {i : Nat} (hs : i + 2 ≤ s.size) (hw : word s i = m) : s.extract i (i + 2) = be m 2 := by
  have h1 := bn_lt s i
  have h2 := bn_lt s (i + 1)
  unfold word at hw
  refine bn_ext (by rw [ext_size s _ _ hs, be_size]; omega) fun j hj => ?_
  rw [ext_size s _ _ hs] at hj
  rw [bn_extract (by omega) hs]
  obtain rfl | rfl : j = 0 ∨ j = 1 := by omega
  · rw [bn_be0, Nat.add_zero]; omega
  · rw [bn_be1, bn_be0]; omega
theorem fold_mod (n : Nat) : fold n % 65535 = n % 65535 := by
  induction n using Nat.strongRecOn with
  | _ n ih =>
    rw [fold]
    split
    · rfl
    · rw [ih _ (by omega)]; omega
theorem fold_pos (n : Nat) (h : 0 < n) : 0 < fold n := by
  induction n using Nat.strongRecOn with
  | _ n ih =>
    rw [fold]
    split
    · exact h
    · exact ih _ (by omega) (by omega)
theorem wsum_congr {s r : ByteArray} : ∀ k, (∀ i, i < k → bn s i = bn r i) → wsum s k = wsum r k
  | 0, _ => rfl
  | k + 1, h => by rw [wsum, wsum, wsum_congr k (fun i hi => h i (by omega)), h k (by omega)]
theorem wsum_one {s r : ByteArray} {at_ : Nat} : ∀ k, at_ < k → (∀ i, i < k → i ≠ at_ → bn s i = bn r i) → wsum s k + bn r at_ * (if at_ % 2 = 0 then 256 else 1) = wsum r k + bn s at_ * (if at_ % 2 = 0 then 256 else 1)
  | 0, h, _ => by omega
  | k + 1, h, hh => by
    rw [wsum, wsum]
    by_cases e : at_ = k
    · subst e
      rw [wsum_congr at_ (fun i hi => hh i (by omega) (by omega))]
      omega
    · have := wsum_one k (by omega) (fun i hi hn => hh i (by omega) hn)
      rw [hh k (by omega) (fun h => e h.symm)]
      omega
theorem wsum_mono {s : ByteArray} : ∀ {k n : Nat}, k ≤ n → wsum s k ≤ wsum s n
  | k, 0, h => by rw [show k = 0 by omega]; exact Nat.le_refl _
  | k, n + 1, h => by
    rcases Nat.lt_or_ge k (n + 1) with h' | h'
    · have := wsum_mono (s := s) (k := k) (n := n) (by omega)
      rw [wsum]
      omega
    · rw [show k = n + 1 by omega]; exact Nat.le_refl _
theorem numB_word (r : ByteArray) (h : 2 ≤ r.size) : numB (r.extract 0 2) 2 = word r 0 := by
  show (0 * 256 + bn (r.extract 0 2) 0) * 256 + bn (r.extract 0 2) 1 = _
  rw [bn_extract (by omega) h, bn_extract (by omega) h]
  unfold word
  rw [Nat.add_zero]
  omega
theorem numB_two (s : ByteArray) (e : Int) (c : Nat) (hc : c ≤ 4) : numB (textS s e c).1 (textS s e c).1.size < 256 ^ c := by
  have h1 := numB_lt (textS s e c).1 (textS s e c).1.size
  have h2 := textS_size s e c
  exact Nat.lt_of_lt_of_le h1 (Nat.pow_le_pow_right (by decide) h2)
/-- A reader behind one more number. -/
def nextC (c : Nat) (q : ByteArray × Int) : ByteArray × Int := ((textS q.1 q.2 c).2.1, (textS q.1 q.2 c).2.2)
theorem nextC_ok {c : Nat} {s : ByteArray} (h : c ≤ s.size) : nextC c (s, 0) = (s.extract c s.size, 0) := by unfold nextC; rw [textS_ok s c h]
theorem nextC_bad {c : Nat} {q : ByteArray × Int} (h : q.2 ≠ 0 ∨ q.1.size < c) : (nextC c q).2 ≠ 0 := by
  unfold nextC textS
  split
  · assumption
  · split
    · show (1 : Int) ≠ 0
      decide
    · split
      · show (10 : Int) ≠ 0
        decide
      · omega
theorem nextC_size {c : Nat} {q : ByteArray × Int} : (nextC c q).1.size ≤ q.1.size ∧ ((nextC c q).2 = 0 → q.2 = 0 ∧ (nextC c q).1.size + c = q.1.size) := by
  unfold nextC textS
  split
  · exact ⟨Nat.le_refl _, fun h => absurd h (by assumption)⟩
  · split
    · exact ⟨Nat.le_refl _, fun h => by cases h⟩
    · split
      · exact ⟨Nat.le_refl _, fun h => by cases h⟩
      · rw [Int.toNat_natCast]
        dsimp only
        rw [ByteArray.size_extract]
        exact ⟨by omega, fun _ => ⟨Classical.not_not.1 (by assumption), by omega⟩⟩

theorem number_nil (c : Nat) (hc : c ≤ 4) : FSpec Try.prog 51 #[.pointer none, .int .i64 (8 * c : Nat)] (emp) (fun _ : Unit => True) (fun _ => .int .u32 0) (fun _ => emp) := by
  refine FSpec.enter' Try.func51 rfl Try.ntmps51 rfl fun σ F => ?_
  refine J_seq ?_
  refine J_region ?_
  refine L_v (opv_assign rfl) rfl ?_
  refine L_nil ?_
  refine K_then ?_
  refine J_seq ?_
  refine J_region ?_
  refine L_v (opv_assign rfl) rfl ?_
  refine L_nil ?_
  refine K_then ?_
  refine J_seq ?_
  refine J_seq ?_
  refine J_region ?_
  refine L_v (opv_move rfl) rfl ?_
  refine L_v (opv_move rfl) rfl ?_
  refine L_v ((opv_quoP rfl rfl (by omega)).as (v' := .int .i64 (c : Int)) (by rw [show ((8 * c : Nat) : Int) / 8 = (c : Int) by omega])) rfl ?_
  refine L_x rfl (opx_call0 (RText_nil (c : Int)) rfl rfl rfl) (fun _ _ => ?_)
  refine L_emp ?_
  refine L_x rfl (opx_s2b rfl rfl) (fun y12 _ => ?_)
  first
    | refine L_v (opv_lenL rfl) rfl ?_
    | refine L_v (opv_lenS rfl) rfl ?_
  refine L_v (opv_move rfl) rfl ?_
  refine L_nil ?_
  refine K_then ?_
  refine J_block ?_
  refine J_loop (X := Unit) (fun _ => [(5, .int .u32 0), (13, .int .i64 0), (14, .int .i64 0)]) (fun _ => (sep (emp) (F))) (fun _ => True) (fun _ => 0) (()) trivial ⟨rfl, rfl, rfl, trivial⟩ Ent.drop (fun _ _ => ?_)
  refine J_seq ?_
  refine J_region ?_
  refine L_v (opv_lss rfl rfl) rfl ?_
  refine L_nil ?_
  refine K_then ?_
  refine J_seq ?_
  refine J_cond rfl (fun h1 => by exfalso; omega) (fun h1 => ?_)
  refine J_exit ?_
  refine K_then_exit ?_
  refine K_then_exit ?_
  refine K_block_here ?_
  refine K_then ?_
  refine J_seq ?_
  refine J_region ?_
  refine L_v (opv_move rfl) rfl ?_
  refine L_v (opv_assign rfl) rfl ?_
  refine L_nil ?_
  refine K_then ?_
  refine J_ret ?_
  exact K_ret1 rfl rfl () trivial (rfl) Ent.take

theorem RU8_spec (p : Nat) (s : ByteArray) (e : Int) : FSpec Try.prog 37 #[.pointer (some (ad p 0))] (cel p [.string s, .int .i64 e] 85) (fun _ : Unit => True) (fun _ => .int .i64 (numB (textS s e (1 : Nat)).1 (ByteArray.size (textS s e (1 : Nat)).1))) (fun _ => cel p [.string (nextC 1 (s, e)).1, .int .i64 (nextC 1 (s, e)).2] 85) := by
  have hlt := numB_two s e 1 (by decide)
  have hpw : (256 : Nat) ^ 1 = 256 := by decide
  refine FSpec.enter' Try.func37 rfl Try.ntmps37 rfl fun σ F => ?_
  refine J_seq ?_
  refine J_region ?_
  refine L_v (opv_assign rfl) rfl ?_
  refine L_nil ?_
  refine K_then ?_
  refine J_seq ?_
  refine J_region ?_
  refine L_v (opv_move rfl) rfl ?_
  refine L_x rfl (opx_call0 (number_spec p s e 1 (by decide)) rfl rfl rfl) (fun _ _ => ?_)
  first
    | refine L_v (opv_convW rfl (Go.IntWalk.i64_in _ (by omega))) rfl ?_
    | refine L_v (opv_convert rfl) rfl ?_
  refine L_v (opv_assign rfl) rfl ?_
  refine L_nil ?_
  refine K_then ?_
  refine J_ret ?_
  exact K_ret1 rfl rfl () trivial (rfl) (Ent.refl _)

theorem RU8_nil  : FSpec Try.prog 37 #[.pointer none] (emp) (fun _ : Unit => True) (fun _ => .int .i64 0) (fun _ => emp) := by
  refine FSpec.enter' Try.func37 rfl Try.ntmps37 rfl fun σ F => ?_
  refine J_seq ?_
  refine J_region ?_
  refine L_v (opv_assign rfl) rfl ?_
  refine L_nil ?_
  refine K_then ?_
  refine J_seq ?_
  refine J_region ?_
  refine L_v (opv_move rfl) rfl ?_
  refine L_x rfl (opx_call0 (number_nil 1 (by decide)) rfl rfl rfl) (fun _ _ => ?_)
  refine L_emp ?_
  first
    | refine L_v (opv_convW rfl (Go.IntWalk.i64_in _ (by omega))) rfl ?_
    | refine L_v (opv_convert rfl) rfl ?_
  refine L_v (opv_assign rfl) rfl ?_
  refine L_nil ?_
  refine K_then ?_
  refine J_ret ?_
  exact K_ret1 rfl rfl () trivial (rfl) Ent.take

theorem RU16_spec (p : Nat) (s : ByteArray) (e : Int) : FSpec Try.prog 33 #[.pointer (some (ad p 0))] (cel p [.string s, .int .i64 e] 85) (fun _ : Unit => True) (fun _ => .int .i64 (numB (textS s e (2 : Nat)).1 (ByteArray.size (textS s e (2 : Nat)).1))) (fun _ => cel p [.string (nextC 2 (s, e)).1, .int .i64 (nextC 2 (s, e)).2] 85) := by
  have hlt := numB_two s e 2 (by decide)
  have hpw : (256 : Nat) ^ 2 = 65536 := by decide
  refine FSpec.enter' Try.func33 rfl Try.ntmps33 rfl fun σ F => ?_
  refine J_seq ?_
  refine J_region ?_
  refine L_v (opv_assign rfl) rfl ?_
  refine L_nil ?_
  refine K_then ?_
  refine J_seq ?_
  refine J_region ?_
  refine L_v (opv_move rfl) rfl ?_
  refine L_x rfl (opx_call0 (number_spec p s e 2 (by decide)) rfl rfl rfl) (fun _ _ => ?_)
  first
    | refine L_v (opv_convW rfl (Go.IntWalk.i64_in _ (by omega))) rfl ?_
    | refine L_v (opv_convert rfl) rfl ?_
  refine L_v (opv_assign rfl) rfl ?_
  refine L_nil ?_
  refine K_then ?_
  refine J_ret ?_
  exact K_ret1 rfl rfl () trivial (rfl) (Ent.refl _)

theorem RU16_nil  : FSpec Try.prog 33 #[.pointer none] (emp) (fun _ : Unit => True) (fun _ => .int .i64 0) (fun _ => emp) := by
  refine FSpec.enter' Try.func33 rfl Try.ntmps33 rfl fun σ F => ?_
  refine J_seq ?_
  refine J_region ?_
  refine L_v (opv_assign rfl) rfl ?_
  refine L_nil ?_
  refine K_then ?_
  refine J_seq ?_
  refine J_region ?_
  refine L_v (opv_move rfl) rfl ?_
  refine L_x rfl (opx_call0 (number_nil 2 (by decide)) rfl rfl rfl) (fun _ _ => ?_)
  refine L_emp ?_
  first
    | refine L_v (opv_convW rfl (Go.IntWalk.i64_in _ (by omega))) rfl ?_
    | refine L_v (opv_convert rfl) rfl ?_
  refine L_v (opv_assign rfl) rfl ?_
  refine L_nil ?_
  refine K_then ?_
  refine J_ret ?_
  exact K_ret1 rfl rfl () trivial (rfl) Ent.take

theorem RU32_spec (p : Nat) (s : ByteArray) (e : Int) : FSpec Try.prog 32 #[.pointer (some (ad p 0))] (cel p [.string s, .int .i64 e] 85) (fun _ : Unit => True) (fun _ => .int .i64 (numB (textS s e (4 : Nat)).1 (ByteArray.size (textS s e (4 : Nat)).1))) (fun _ => cel p [.string (nextC 4 (s, e)).1, .int .i64 (nextC 4 (s, e)).2] 85) := by
  have hlt := numB_two s e 4 (by decide)
  have hpw : (256 : Nat) ^ 4 = 4294967296 := by decide
  refine FSpec.enter' Try.func32 rfl Try.ntmps32 rfl fun σ F => ?_
  refine J_seq ?_
  refine J_region ?_
  refine L_v (opv_assign rfl) rfl ?_
  refine L_nil ?_
  refine K_then ?_
  refine J_seq ?_
  refine J_region ?_
  refine L_v (opv_move rfl) rfl ?_
  refine L_x rfl (opx_call0 (number_spec p s e 4 (by decide)) rfl rfl rfl) (fun _ _ => ?_)
  first
    | refine L_v (opv_convW rfl (Go.IntWalk.i64_in _ (by omega))) rfl ?_
    | refine L_v (opv_convert rfl) rfl ?_
  refine L_v (opv_assign rfl) rfl ?_
  refine L_nil ?_
  refine K_then ?_
  refine J_ret ?_
  exact K_ret1 rfl rfl () trivial (rfl) (Ent.refl _)

theorem RU32_nil  : FSpec Try.prog 32 #[.pointer none] (emp) (fun _ : Unit => True) (fun _ => .int .i64 0) (fun _ => emp) := by
  refine FSpec.enter' Try.func32 rfl Try.ntmps32 rfl fun σ F => ?_
  refine J_seq ?_
  refine J_region ?_
  refine L_v (opv_assign rfl) rfl ?_
  refine L_nil ?_
  refine K_then ?_
  refine J_seq ?_
  refine J_region ?_
  refine L_v (opv_move rfl) rfl ?_
  refine L_x rfl (opx_call0 (number_nil 4 (by decide)) rfl rfl rfl) (fun _ _ => ?_)
  refine L_emp ?_
  first
    | refine L_v (opv_convW rfl (Go.IntWalk.i64_in _ (by omega))) rfl ?_
    | refine L_v (opv_convert rfl) rfl ?_
  refine L_v (opv_assign rfl) rfl ?_
  refine L_nil ?_
  refine K_then ?_
  refine J_ret ?_
  exact K_ret1 rfl rfl () trivial (rfl) Ent.take

theorem Rest_spec (p : Nat) (s : ByteArray) (e : Int) : FSpec Try.prog 29 #[.pointer (some (ad p 0))] (cel p [.string s, .int .i64 e] 85) (fun _ : Unit => True) (fun _ => .string (textS s e s.size).1) (fun _ => cel p [.string (textS s e s.size).2.1, .int .i64 (textS s e s.size).2.2] 85) := by
  refine FSpec.enter' Try.func29 rfl Try.ntmps29 rfl fun σ F => ?_
  refine J_seq ?_
  refine J_region ?_
  refine L_v (opv_assign rfl) rfl ?_
  refine L_nil ?_
  refine K_then ?_
  refine J_seq ?_
  refine J_region ?_
  refine L_v (opv_move rfl) rfl ?_
  refine L_v (opv_move rfl) rfl ?_
  refine L_x rfl (opx_call0 (Left_spec p s e) rfl rfl rfl) (fun _ _ => ?_)
  refine L_x rfl (opx_call0 (RText_any p s e s.size) rfl rfl rfl) (fun _ _ => ?_)
  refine L_v (opv_assign rfl) rfl ?_
  refine L_nil ?_
  refine K_then ?_
  refine J_ret ?_
  exact K_ret1 rfl rfl () trivial (rfl) Ent.take

theorem Rest_nil  : FSpec Try.prog 29 #[.pointer none] (emp) (fun _ : Unit => True) (fun _ => .string ByteArray.empty) (fun _ => emp) := by
  refine FSpec.enter' Try.func29 rfl Try.ntmps29 rfl fun σ F => ?_
  refine J_seq ?_
  refine J_region ?_
  refine L_v (opv_assign rfl) rfl ?_
  refine L_nil ?_
  refine K_then ?_
  refine J_seq ?_
  refine J_region ?_
  refine L_v (opv_move rfl) rfl ?_
  refine L_v (opv_move rfl) rfl ?_
  refine L_x rfl (opx_call0 (Left_nil) rfl rfl rfl) (fun _ _ => ?_)
  refine L_emp ?_
  refine L_x rfl (opx_call0 (RText_nil 0) rfl rfl rfl) (fun _ _ => ?_)
  refine L_emp ?_
  refine L_v (opv_assign rfl) rfl ?_
  refine L_nil ?_
  refine K_then ?_
  refine J_ret ?_
  exact K_ret1 rfl rfl () trivial (rfl) Ent.take


theorem RU16_ok (p : Nat) (r : ByteArray) (h : 2 ≤ r.size) : FSpec Try.prog 33 #[.pointer (some (ad p 0))] (cel p [.string r, .int .i64 0] 85) (fun _ : Unit => True) (fun _ => .int .i64 (word r 0)) (fun _ => cel p [.string (r.extract 2 r.size), .int .i64 0] 85) := by
  have := RU16_spec p r 0
  have e := textS_ok r 2 h
  have hz := ext_size r 0 2 h
  rw [nextC_ok h, e] at this
  rw [hz, numB_word r h] at this
  exact this
theorem ext_ext (s : ByteArray) (o k : Nat) : (s.extract o s.size).extract k (s.extract o s.size).size = s.extract (o + k) s.size := by
  rw [ByteArray.extract_extract, ByteArray.size_extract]
  congr 1
  omega
theorem word_ext {s : ByteArray} {o i : Nat} (h : o + i + 2 ≤ s.size) : word (s.extract o s.size) i = word s (o + i) := by
  unfold word
  rw [bn_extract (by omega) (Nat.le_refl _), bn_extract (by omega) (Nat.le_refl _), Nat.add_assoc]
theorem RU16_at (p o : Nat) (s : ByteArray) (h : o + 2 ≤ s.size) : FSpec Try.prog 33 #[.pointer (some (ad p 0))] (cel p [.string (s.extract o s.size), .int .i64 0] 85) (fun _ : Unit => True) (fun _ => .int .i64 (word s o)) (fun _ => cel p [.string (s.extract (o + 2) s.size), .int .i64 0] 85) := by
  have := RU16_ok p (s.extract o s.size) (by rw [ext_size s _ _ (Nat.le_refl _)]; omega)
  rw [ext_ext, word_ext (by omega)] at this
  exact this
theorem Rest_ok (p : Nat) (s : ByteArray) : FSpec Try.prog 29 #[.pointer (some (ad p 0))] (cel p [.string s, .int .i64 0] 85) (fun _ : Unit => True) (fun _ => .string s) (fun _ => cel p [.string ByteArray.empty, .int .i64 0] 85) := by
  have := Rest_spec p s 0
  rw [textS_ok s s.size (Nat.le_refl _), ByteArray.extract_same, ByteArray.extract_zero_size] at this
  exact this

end Go.Proofs.Ytdmlcnecildliaa
