/- Rules of a separation logic over the model, and contracts of functions of the translation; used by the texts that import this one. -/
import Derived.Test.YtpkcniedaabpoaaGreatM3
import Derived.Test.YtpkcniedaabpoaaGreatM4
import Derived.Test.YtpkcniedaabpoaaGreatM5
import Derived.Test.YtpkcniedaabpoaaGreatM2
import Derived.Test.YtpkcniedaabpoaaGreatM1
set_option linter.unusedVariables false
set_option linter.unusedSimpArgs false
namespace Go.Proofs.YtpkcniedaabpoaaGreat
open Go.SLA
set_option maxRecDepth 100000
attribute [local irreducible] J L K QL Rg FSpec OpV OpX Rd Back
/-- Numbers of so many bits out of one number, of which so many bits are left. -/
def unp (n : Nat) : Nat → List Int → List Int
  | _, [] => []
  | left, w :: ws => ((n / 2 ^ (left - w.toNat) % 2 ^ w.toNat : Nat) : Int) :: unp n (left - w.toNat) ws
theorem unp_drop {n left k : Nat} {ws : List Int} {v : Int} (hv : ws[k]? = some v) : unp n left (ws.drop k) = ((n / 2 ^ (left - v.toNat) % 2 ^ v.toNat : Nat) : Int) :: unp n (left - v.toNat) (ws.drop (k + 1)) := by
  have h1 : k < ws.length := by
    rcases Nat.lt_or_ge k ws.length with h | h
    · exact h
    · rw [List.getElem?_eq_none h] at hv; cases hv
  rw [List.drop_eq_getElem_cons h1]
  rw [List.getElem?_eq_getElem h1] at hv
  simp only [Option.some.injEq] at hv
  rw [hv, unp]
theorem shr_n {n j : Nat} (hj : j ≤ 64) : Value.int .u64 ((n : Int) / 2 ^ (min (Int.toNat (j : Int)) IntKind.u64.bits)) = .int .u64 ((n / 2 ^ j : Nat) : Int) := by
  have e : min (Int.toNat (j : Int)) IntKind.u64.bits = j := by have : IntKind.u64.bits = 64 := rfl; omega
  have h5 : (2 : Int) ^ j = ((2 ^ j : Nat) : Int) := by rw [Int.natCast_pow]; rfl
  rw [e, h5, ← Int.natCast_ediv]
theorem one_shl {w : Nat} (hw : w ≤ 32) : Value.int .u64 (IntKind.u64.wrap ((1 : Int) * 2 ^ (min (Int.toNat (w : Int)) IntKind.u64.bits))) = .int .u64 ((2 ^ w : Nat) : Int) := by
  have e : min (Int.toNat (w : Int)) IntKind.u64.bits = w := by have : IntKind.u64.bits = 64 := rfl; omega
  have h2 : 2 ^ w ≤ 2 ^ 32 := Nat.pow_le_pow_right (by decide) hw
  have h4 : 2 ^ 32 = 4294967296 := by decide
  have h5 : (2 : Int) ^ w = ((2 ^ w : Nat) : Int) := by rw [Int.natCast_pow]; rfl
  rw [h4] at h2
  rw [e, h5, Int.one_mul]
  generalize 2 ^ w = z at h2 ⊢
  rw [Go.IntWalk.u64_in _ (by omega)]
theorem and_w {a w : Nat} (ha : a < 18446744073709551616) (hw : w ≤ 32) : Value.int .u64 (IntKind.u64.wrap (((BitVec.ofInt IntKind.u64.bits (a : Int) &&& BitVec.ofInt IntKind.u64.bits (((2 ^ w : Nat) : Int) - 1)).toNat : Nat) : Int)) = .int .u64 ((a % 2 ^ w : Nat) : Int) := by
  have h5 : ((2 ^ w : Nat) : Int) = (2 : Int) ^ w := by rw [Int.natCast_pow]; rfl
  have := low_bits (w := 64) (m := w) (a := (a : Int)) (by omega) ⟨by omega, by show (a : Int) < 18446744073709551616; omega⟩
  have e : ((BitVec.ofInt IntKind.u64.bits (a : Int) &&& BitVec.ofInt IntKind.u64.bits (((2 ^ w : Nat) : Int) - 1)).toNat : Int) = (a : Int) % 2 ^ w := by rw [h5]; exact this
  rw [e, ← h5, ← Int.natCast_emod, Go.IntWalk.u64_in _ (by have := Nat.mod_le a (2 ^ w); omega)]
theorem number_ok (p : Nat) (s : ByteArray) (c : Nat) (hc : c ≤ 4) (hs : c ≤ s.size) : FSpec Tryz.prog 77 #[.pointer (some (ad p 0)), .int .i64 (8 * c : Nat)] (cel p [.string s, .int .i64 0] 176) (fun _ : Unit => True) (fun _ => .int .u32 (numB (s.extract 0 c) c : Nat)) (fun _ => cel p [.string (s.extract c s.size), .int .i64 0] 176) := by
  have := number_spec p s 0 c hc
  rw [textS_ok s c hs] at this
  rw [ext_size s 0 c hs] at this
  exact this
theorem RBits_go (p : Nat) (s : ByteArray) (R0 : HProp) (A : Option Addr) (c1 : Nat) (ws : List Int) (hR : RdS R0 encZ 1 A ws) (hn : ws.length ≤ 1000000) (hw : ∀ v ∈ ws, -9223372036854775808 ≤ v ∧ v ≤ 9223372036854775807) (c : Nat) (hc : 1 ≤ c ∧ c ≤ 4) (hcw : sumW ws = ((8 * c : Nat) : Int)) (hcs : sumGo 0 ws = some ((8 * c : Nat) : Int)) (hs : c ≤ s.size) : FSpec Tryz.prog 47 #[.pointer (some (ad p 0)), .slice A ws.length c1] ((sep (cel p [.string s, .int .i64 0] 176) (R0))) (fun r : Option Addr × Nat => True) (fun r => .slice r.1 (unp (numB (s.extract 0 c) c) (8 * c) ws).length r.2) (fun r => (sep (Own 3 1 (.slice r.1 (unp (numB (s.extract 0 c) c) (8 * c) ws).length r.2) (unp (numB (s.extract 0 c) c) (8 * c) ws).length ((unp (numB (s.extract 0 c) c) (8 * c) ws).flatMap encZ)) (sep (cel p [.string (s.extract c s.size), .int .i64 0] 176) (R0)))) := by
  have hlt := numB_lt (s.extract 0 c) c
  have hp4 : 256 ^ c ≤ 4294967296 := Nat.le_trans (Nat.pow_le_pow_right (by decide) hc.2) (by decide)
  refine en Tryz.func47 r fun σ F=>?_
  refine J_imp (sep (Own 3 1 (.slice none 0 0) ([] : List Int).length (([] : List Int).flatMap encZ)) (sep (cel p [.string s, .int .i64 0] 176) (sep (R0) (F)))) (Ent.trans (Ent.of (sep_assoc _ _ _)) (Ent.trans (Ent.of (emp_sep _).symm) ((Own.nil 3 1).frame _))) ?_
  refine san r<|js<|sa r<|cy (Err_spec p s 0) r fun _=>lv ((opv_neq r r).bool_f (by decide)) r<|nf r<|sk<|sa r<|cy (sum_spec R0 A c1 ws hR (by omega) hw) r fun _=>?_
  rw [hcw]
  refine an r<|js<|sa r<|lv ((opv_eql r r).bool_f (by omega)) r<|nf r<|sk<|sb r<|cy (number_ok p s c hc.2 hs) r fun _=>?_
  first | refine lv (opv_convW r (Go.IntWalk.u64_in _ (by omega))) r ?_ | refine lv (opv_convert r) r ?_
  refine an r<|js<|sb r ?_
  first | refine fz r ?_ | refine fy r ?_
  refine ld r r<|lv ((opv_neq r r).bool_f (by decide)) r<|nf r<|sk<|san r<|js<|sa r ?_
  first | refine ll r ?_ | refine lv (opv_lenS r) r ?_
  refine an r<|jb ?_
  refine J_loop (X := Nat × Nat × List Int × (Option Addr × Nat)) (fun y => [(5, .int .i64 (y.2.1 : Nat)), (6, .int .u64 ((numB (s.extract 0 c) c) : Nat)), (7, .slice y.2.2.2.1 y.2.2.1.length y.2.2.2.2), (29, .slice A ws.length c1), (30, .int .i64 ws.length), (31, .int .i64 y.1)]) (fun y => (sep (Own 3 1 (.slice y.2.2.2.1 y.2.2.1.length y.2.2.2.2) y.2.2.1.length (y.2.2.1.flatMap encZ)) (sep (cel p [.string (s.extract c s.size), .int .i64 0] 176) (sep (R0) (F))))) (fun y => y.1 ≤ ws.length ∧ y.2.2.1 ++ unp (numB (s.extract 0 c) c) y.2.1 (ws.drop y.1) = unp (numB (s.extract 0 c) c) (8 * c) ws ∧ sumGo ((8 * c - y.2.1 : Nat) : Int) (ws.drop y.1) = some ((8 * c : Nat) : Int) ∧ y.2.1 ≤ 8 * c ∧ y.2.2.1.length ≤ y.1) (fun y => ws.length - y.1) ((0, 8 * c, [], (none, 0))) ⟨Nat.zero_le _, rfl, by rw [Nat.sub_self]; exact hcs, Nat.le_refl _, Nat.le_refl _⟩ ⟨rfl, rfl, rfl, rfl, rfl, rfl, trivial⟩ Ent.take (fun y hy => ?_)
  obtain ⟨hk, hy, hsum, hlc, hql⟩ := hy
  refine sr<|lv (opv_lss r r) r<|nj ?_
  refine J_cond rfl (fun h1 => ?_) (fun h1 => ?_)
  · have hkl : y.1 < ws.length := by omega
    obtain ⟨v, hv⟩ : ∃ v, ws[y.1]? = some v := ⟨_, List.getElem?_eq_getElem hkl⟩
    obtain ⟨b, o, rfl⟩ := hR.nonnil y.1 hkl
    have hsd := sumGo_drop (n := ((8 * c - y.2.1 : Nat) : Int)) hv
    have hud := unp_drop (n := (numB (s.extract 0 c) c)) (left := y.2.1) hv
    have hv1 : 1 ≤ v ∧ v ≤ 32 := by (rw [hsum] at hsd; split at hsd; cases hsd; omega)
    rw [if_neg (by omega), hsum] at hsd
    have htv := sumGo_le hsd.symm
    obtain ⟨w, rfl⟩ : ∃ w : Nat, v = w := ⟨v.toNat, by omega⟩
    rw [Int.toNat_natCast] at hud
    have hdl : (numB (s.extract 0 c) c) / 2 ^ (y.2.1 - w) ≤ (numB (s.extract 0 c) c) := Nat.div_le_self _ _
    have hml : (numB (s.extract 0 c) c) / 2 ^ (y.2.1 - w) % 2 ^ w ≤ (numB (s.extract 0 c) c) / 2 ^ (y.2.1 - w) := Nat.mod_le _ _
    have h2w : 1 ≤ 2 ^ w ∧ 2 ^ w ≤ 4294967296 := ⟨Nat.one_le_two_pow, Nat.le_trans (Nat.pow_le_pow_right (by decide) (show w ≤ 32 by omega)) (by decide)⟩
    refine sk<|js<|jb<|sr ?_
    first | refine lv (opv_indexAddr r r (by omega)) r ?_ | refine lv (opv_indexAddrA r r (by omega)) r ?_
    refine lv (opv_load r (Rd.of_take (S := R0) (hR.rd b o r y.1 (w : Int) 0 _ hv r))) r<|an r<|sb r<|lv ((opv_sub64 r r (by omega)).as (v' := .int .i64 ((y.2.1 - w : Nat) : Int)) (congrArg (Value.int .i64) (by omega))) r<|an r<|jg<|ec r ?_
    first | refine lv (opv_convW r (Go.IntWalk.u64_in _ (by omega))) r ?_ | refine lv (opv_convert r) r ?_
    refine lv ((opv_shrP r r (by omega)).as (shr_n (by omega))) r<|ea r ?_
    first | refine lv (opv_convW r (Go.IntWalk.u64_in _ (by omega))) r ?_ | refine lv (opv_convert r) r ?_
    refine lv ((opv_shl r r (by omega)).as (one_shl (by omega))) r<|lv (opv_subW r r (Go.IntWalk.u64_in _ (by omega))) r<|lv ((opv_and r r).as (and_w (by omega) (by omega))) r<|lv (opv_convW r (Go.IntWalk.i64_in _ (by omega))) r<|lx r (opx_buildSlice1 (m := 1) r r (by omega) (by omega) r) fun b49 _=>lx r (opx_append (m := 1) (B := 8) r r (Src.lit) r (by omega) r (by simp [Value.oneCell']) (by unfold maxLen; omega) (by omega) r) fun y50 _=>ea r<|ln<|kb<|kt<|jg ?_
    first | refine lv (opv_add64 r r (by omega)) r ?_ | refine lv (opv_addS r r (by omega)) r ?_ | refine lv (opv_add r r) r ?_
    refine ea r<|ln ?_
    rw [show y.2.2.1.length + 1 = (y.2.2.1 ++ [(((numB (s.extract 0 c) c) / 2 ^ (y.2.1 - w) % 2 ^ w : Nat) : Int)]).length by simp, show y.2.2.1.flatMap encZ ++ [.int .i64 (((numB (s.extract 0 c) c) / 2 ^ (y.2.1 - w) % 2 ^ w : Nat) : Int)] = (y.2.2.1 ++ [(((numB (s.extract 0 c) c) / 2 ^ (y.2.1 - w) % 2 ^ w : Nat) : Int)]).flatMap encZ by simp [encZ]]
    exact K_loop ((y.1 + 1, y.2.1 - w, y.2.2.1 ++ [(((numB (s.extract 0 c) c) / 2 ^ (y.2.1 - w) % 2 ^ w : Nat) : Int)], y50)) ⟨by show y.1 + 1 ≤ _; omega, by rw [← hy, hud, List.append_assoc]; rfl, by show sumGo ((8 * c - (y.2.1 - w) : Nat) : Int) _ = _; rw [hsd]; congr 1; omega, by show y.2.1 - w ≤ _; omega, by show (y.2.2.1 ++ [_]).length ≤ y.1 + 1; rw [List.length_append]; simp only [List.length_cons, List.length_nil]; omega⟩ (by show _ - (y.1 + 1) < _; omega) ⟨rfl, rfl, rfl, rfl, rfl, rfl, trivial⟩ Ent.take
  · refine J_exit ?_
    refine ke<|ke<|kh<|kt<|sb r<|nk<|jr ?_
    have he : y.1 = ws.length := by omega
    rw [he, List.drop_length, unp, List.append_nil] at hy
    rw [hy]
    exact K_ret1 rfl rfl y.2.2.2 trivial rfl Ent.take
theorem RBits3 (p b : Nat) (s : ByteArray) (hs : 8 ≤ s.size) : FSpec Tryz.prog 47 #[.pointer (some (ad p 0)), .slice (some (ad b 0)) 3 3] (sep (cel p [.string (s.extract 6 s.size), .int .i64 0] 176) (cel b [.int .i64 2, .int .i64 1, .int .i64 13] 3)) (fun _ : Option Addr × Nat => True) (fun r => .slice r.1 3 r.2) (fun r => (sep (Own 3 1 (.slice r.1 3 r.2) 3 [.int .i64 ((word s 6 / 16384 % 4 : Nat) : Int), .int .i64 ((word s 6 / 8192 % 2 : Nat) : Int), .int .i64 ((word s 6 % 8192 : Nat) : Int)]) (sep (cel p [.string (s.extract 8 s.size), .int .i64 0] 176) (cel b [.int .i64 2, .int .i64 1, .int .i64 13] 3)))) := by
  have h2 : 2 ≤ (s.extract 6 s.size).size := by rw [ext_size _ _ _ (Nat.le_refl _)]; omega
  have := RBits_go p (s.extract 6 s.size) (cel b [.int .i64 2, .int .i64 1, .int .i64 13] 3) (some (ad b 0)) 3 [2, 1, 13] (RdS.lit (b := b) (cells := [.int .i64 2, .int .i64 1, .int .i64 13]) rfl encZ_len) (by decide) (by decide) 2 (by decide) (by decide) (by decide) h2
  have hN : numB ((s.extract 6 s.size).extract 0 2) 2 = word s 6 := by rw [numB_word _ h2, word_ext (by omega), Nat.add_zero]
  have hu : unp (word s 6) (8 * 2) [2, 1, 13] = [((word s 6 / 16384 % 4 : Nat) : Int), ((word s 6 / 8192 % 2 : Nat) : Int), ((word s 6 % 8192 : Nat) : Int)] := by
    show [((word s 6 / 2 ^ 14 % 2 ^ 2 : Nat) : Int), ((word s 6 / 2 ^ 13 % 2 ^ 1 : Nat) : Int), ((word s 6 / 2 ^ 0 % 2 ^ 13 : Nat) : Int)] = _
    rw [show word s 6 / 2 ^ 0 = word s 6 from Nat.div_one _]
  rw [hN, hu, ext_ext] at this
  exact this
end Go.Proofs.YtpkcniedaabpoaaGreat
namespace Go.Proofs.YtpkcniedaabpoaaGreat
open Go.SLA
set_option maxRecDepth 100000
attribute [local irreducible] J L K QL Rg FSpec OpV OpX Rd Back
def zeroed (s : ByteArray) : ByteArray := s.extract 0 10 ++ ⟨#[0, 0]⟩ ++ s.extract 12 20
def parseP (s : ByteArray) : Pk := ⟨(word s 4 : Nat), decide (word s 6 / 8192 % 2 = 1), ((word s 6 % 8192 : Nat) : Int), (bn s 8 : Nat), (bn s 9 : Nat), (bn s 12 : Nat), (bn s 13 : Nat), (bn s 14 : Nat), (bn s 15 : Nat), (bn s 16 : Nat), (bn s 17 : Nat), (bn s 18 : Nat), (bn s 19 : Nat), s.extract 20 (word s 2)⟩
/-- The packet at the front of bytes, or why there is none. -/
def decP (s : ByteArray) : Pk × Int := if s.size < 20 then (pkz, 10) else if bn s 0 ≠ 69 then (pkz, 13) else if bn s 1 ≠ 0 ∨ word s 2 < 20 ∨ word s 6 / 16384 % 4 ≠ 0 then (pkz, 15) else if word s 10 ≠ ones (zeroed s) then (pkz, 12) else if s.size < word s 2 then (pkz, 10) else (parseP s, 0)
theorem zeroed_size {s : ByteArray} (h : 20 ≤ s.size) : (zeroed s).size = 20 := by
  unfold zeroed
  rw [ByteArray.size_append, ByteArray.size_append, ext_size _ _ _ (by omega), ext_size _ _ _ (by omega)]
  rfl
theorem zeroed_bn {s : ByteArray} (h : 20 ≤ s.size) (i : Nat) (hi : i < 20) : bn (zeroed s) i = if i = 10 ∨ i = 11 then 0 else bn s i := by
  have h1 : (s.extract 0 10).size = 10 := ext_size _ _ _ (by omega)
  have h0 : (⟨#[0, 0]⟩ : ByteArray).size = 2 := rfl
  have h2 : (s.extract 0 10 ++ ⟨#[0, 0]⟩).size = 12 := by rw [ByteArray.size_append, h1, h0]
  unfold zeroed
  by_cases a : i < 10
  · rw [bn_app_l (by omega), bn_app_l (by omega), bn_extract (by omega) (by omega), if_neg (by omega), Nat.zero_add]
  · by_cases c : i < 12
    · rw [bn_app_l (by omega), bn_app_r (by omega), h1, if_pos (by omega)]
      rcases (show i = 10 ∨ i = 11 by omega) with rfl | rfl <;> rfl
    · rw [bn_app_r (by omega), h2, bn_extract (by omega) (by omega), if_neg (by omega), show 12 + (i - 12) = i by omega]
theorem wsum_sum {X Z : ByteArray} (hz : ∀ i, i < 20 → bn Z i = if i = 10 ∨ i = 11 then 0 else bn X i) : wsum X 20 = wsum Z 20 + (bn X 10 * 256 + bn X 11) := by
  have h10 : wsum X 10 = wsum Z 10 := wsum_congr 10 (fun i hi => by rw [hz i (by omega), if_neg (by omega)])
  have h12 : wsum X 12 = wsum Z 12 + (bn X 10 * 256 + bn X 11) := by
    show wsum X 10 + bn X 10 * 256 + bn X 11 * 1 = wsum Z 10 + bn Z 10 * 256 + bn Z 11 * 1 + _
    rw [hz 10 (by decide), hz 11 (by decide), if_pos (by decide), if_pos (by decide), h10]
    omega
  have hk : ∀ j, j ≤ 8 → wsum X (12 + j) = wsum Z (12 + j) + (bn X 10 * 256 + bn X 11) := by
    intro j
    induction j with
    | zero => intro _; exact h12
    | succ j ih =>
      intro hj
      have := ih (by omega)
      have hb : bn Z (12 + j) = bn X (12 + j) := by rw [hz (12 + j) (by omega), if_neg (by omega)]
      rw [← Nat.add_assoc, wsum, wsum, this, hb]
      omega
  exact hk 8 (Nat.le_refl _)
theorem ones_eq (s : ByteArray) : ones s = 65535 - fold (wsum s s.size) := by unfold ones; rfl
theorem sealed_zero {s : ByteArray} (h : 20 ≤ s.size) (h69 : bn s 0 = 69) (hw : word s 10 = ones (zeroed s)) : ones (s.extract 0 20) = 0 := by
  have hz := zeroed_size h
  have hx : (s.extract 0 20).size = 20 := ext_size _ _ _ h
  have hs := wsum_sum (X := s.extract 0 20) (Z := zeroed s) (fun i hi => by rw [zeroed_bn h i hi, bn_extract (by omega) h, Nat.zero_add])
  rw [bn_extract (by omega) h, bn_extract (by omega) h, Nat.zero_add, Nat.zero_add] at hs
  have hwd : word s 10 = bn s 10 * 256 + bn s 11 := by unfold word; rfl
  have hpos : 0 < wsum (zeroed s) 20 := by
    have h1 : wsum (zeroed s) 1 ≤ wsum (zeroed s) 20 := wsum_mono (by decide)
    have h2 : wsum (zeroed s) 1 = 0 + bn (zeroed s) 0 * 256 := rfl
    rw [zeroed_bn h 0 (by decide), if_neg (by decide), h69] at h2
    omega
  rw [ones_eq, hz] at hw
  rw [ones_eq, hx, hs]
  have f1 := fold_le (wsum (zeroed s) 20)
  have f2 := fold_mod (wsum (zeroed s) 20)
  have f3 := fold_pos _ hpos
  have g1 := fold_le (wsum (zeroed s) 20 + (bn s 10 * 256 + bn s 11))
  have g2 := fold_mod (wsum (zeroed s) 20 + (bn s 10 * 256 + bn s 11))
  have g3 := fold_pos (wsum (zeroed s) 20 + (bn s 10 * 256 + bn s 11)) (by omega)
  omega
theorem RU8_at (p o : Nat) (s : ByteArray) (h : o + 1 ≤ s.size) : FSpec Tryz.prog 46 #[.pointer (some (ad p 0))] (cel p [.string (s.extract o s.size), .int .i64 0] 176) (fun _ : Unit => True) (fun _ => .int .i64 (bn s o : Nat)) (fun _ => cel p [.string (s.extract (o + 1) s.size), .int .i64 0] 176) := by
  have h1 : 1 ≤ (s.extract o s.size).size := by rw [ext_size _ _ _ (Nat.le_refl _)]; omega
  have := RU8_spec p (s.extract o s.size) 0
  have e := textS_ok (s.extract o s.size) 1 h1
  have hn : numB ((s.extract o s.size).extract 0 1) 1 = bn s o := by
    show 0 * 256 + bn ((s.extract o s.size).extract 0 1) 0 = _
    rw [bn_extract (by omega) h1, bn_extract (by omega) (Nat.le_refl _)]
    simp
  have hz := ext_size (s.extract o s.size) 0 1 h1
  rw [nextC_ok h1, e] at this
  rw [hz, hn, ext_ext] at this
  exact this
theorem RU8_zero (p : Nat) (s : ByteArray) (h : 1 ≤ s.size) : FSpec Tryz.prog 46 #[.pointer (some (ad p 0))] (cel p [.string s, .int .i64 0] 176) (fun _ : Unit => True) (fun _ => .int .i64 (bn s 0 : Nat)) (fun _ => cel p [.string (s.extract 1 s.size), .int .i64 0] 176) := by
  have := RU8_at p 0 s (by omega)
  rwa [ByteArray.extract_zero_size] at this
theorem RText_at (p o k : Nat) (s : ByteArray) (h : o + k ≤ s.size) : FSpec Tryz.prog 44 #[.pointer (some (ad p 0)), .int .i64 (k : Nat)] (cel p [.string (s.extract o s.size), .int .i64 0] 176) (fun _ : Unit => True) (fun _ => .string (s.extract o (o + k))) (fun _ => cel p [.string (s.extract (o + k) s.size), .int .i64 0] 176) := by
  have := RText_ok p (s.extract o s.size) k (by rw [ext_size _ _ _ (Nat.le_refl _)]; omega)
  have e : (s.extract o s.size).extract 0 k = s.extract o (o + k) := by
    rw [ByteArray.extract_extract]
    congr 1
    omega
  rw [e, ext_ext] at this
  exact this
theorem Rd4 {P R : HProp} {b c e : Nat} {T : ByteArray} [Take P (byb b T c e) R] (h : T.size = 4) : ∀ (j : Nat) (u : Value), [Value.int .u8 (bn T 0 : Nat), .int .u8 (bn T 1 : Nat), .int .u8 (bn T 2 : Nat), .int .u8 (bn T 3 : Nat)][j]? = some u → Rd P b (0 + j) u := fun j u hj => by
  have hj4 : j < 4 := by
    rcases Nat.lt_or_ge j 4 with h | h
    · exact h
    · rw [List.getElem?_eq_none (by simpa using h)] at hj; cases hj
  have := Rd.byb (P := P) (b := b) (c := c) (s := T) (e := e) (j := j) (by omega)
  rw [Nat.zero_add]
  rcases (show j = 0 ∨ j = 1 ∨ j = 2 ∨ j = 3 by omega) with rfl | rfl | rfl | rfl <;> (cases hj; exact this)
theorem word_nat (s : ByteArray) (i : Nat) : word s i = bn s i * 256 + bn s (i + 1) := by unfold word; rfl
attribute [local irreducible] be ones word zeroed
theorem twice_spec (s : ByteArray) (h : 20 ≤ s.size) (hs : s.size ≤ 1000000) : FSpec Tryz.prog 48 #[.string s] (emp) (fun _ : Unit => True) (fun _ => .bool (decide (word s 10 ≠ ones (zeroed s)))) (fun _ => emp) := by
  have hz := zeroed_size h
  have hz0 : (⟨#[0, 0]⟩ : ByteArray).size = 2 := rfl
  refine en Tryz.func48 r fun σ F=>J_emp<|san r<|sa r<|lv ((opv_sliceSlo r r (by omega)).as (congrArg (fun k => Value.string (s.extract k s.size)) (show Int.toNat 10 = 10 from r))) r<|cy (Read_spec (s.extract 10 s.size)) r fun p=>cy (RU16_at p 10 s (by omega)) r fun _=>an r<|js<|J_quiet Tryz.mixed (by kernel_rfl)<|qb r<|qv ((opv_sliceShi r r (by omega)).as (congrArg (fun k => Value.string (s.extract 0 k)) (show Int.toNat 10 = 10 from r))) r<|qv (opv_addS r r (by rw [ext_size _ _ _ (by omega), hz0]; decide)) r<|qa r<|qv ((opv_sliceS r r r (by omega)).as (v' := .string (s.extract 12 20)) (by rw [show Int.toNat 12 = 12 from rfl, show Int.toNat 20 = 20 from rfl])) r<|qv ((opv_addS r r (by rw [ByteArray.size_append, ext_size _ _ _ (by omega), ext_size _ _ _ (by omega), hz0]; decide)).as (v' := .string (zeroed s)) (by unfold zeroed; rfl)) r ?_
  refine Q_call (Ones_spec (zeroed s) (by omega)) r r (fun _ _ => r) (fun _ _ => Ent.refl _) r<|qv ((opv_neq r r).as (v' := .bool (decide (word s 10 ≠ ones (zeroed s)))) (congrArg Value.bool (decide_eq_decide.2 (by omega)))) r<|qa r<|qn<|kt<|jr ?_
  exact K_ret1 rfl rfl () trivial (rfl) Ent.take
set_option maxHeartbeats 1000000 in
theorem Ip4Decode_spec (s : ByteArray) (hs : s.size ≤ 1000000) : FSpec Tryz.prog 14 #[.string s] (emp) (fun _ : Unit => True) (fun _ => .tuple #[.agg (encPk (decP s).1).toArray, .int .i64 (decP s).2]) (fun _ => emp) := by
  have hb0 := bn_lt s 0
  have hb1 := bn_lt s 1
  have hw2 := word_lt s 2
  have hw6 := word_lt s 6
  refine en Tryz.func14 r fun σ F=>J_emp<|sr<|al r fun b2=>an r<|js<|sa r ?_
  first | refine ll r ?_ | refine lv (opv_lenS r) r ?_
  refine lv (opv_lss r r) r<|nk ?_
  refine J_cond rfl (fun h1 => ?_) (fun h1 => ?_)
  · refine sr<|lv (opv_build r) r ?_
    refine lx r (opx_store r r r (by simp [Value.oneCell'])) fun _ _=>an r<|jr<|kd ?_
    have e : decP s = (pkz, 10) := by unfold decP; rw [if_pos (by omega)]
    exact K_ret2c rfl rfl rfl rfl () trivial (by rw [e]; rfl) Ent.take
  · refine sk<|sa r<|cy (Read_spec s) r fun p=>an r<|sa r<|cy (RU8_zero p s (by omega)) r fun _=>ea r<|cy (RU8_at p 1 s (by omega)) r fun _=>ea r<|cy (RU16_at p 2 s (by omega)) r fun _=>ec r<|nr<|ea r<|cy (RU16_at p 4 s (by omega)) r fun _=>lv (opv_build r) r<|al r fun b8=>?_
    refine lx r (opx_store r r r (by simp [Value.oneCell'])) fun _ _=>nr<|ea r<|cy parts_spec r fun b26=>cy (RBits3 p b26 s (by omega)) r fun rl=>an r<|js<|js ?_
    obtain ⟨Al, cl⟩ := rl
    refine J_know (fun w hs => own_nonnil (Sat.ent hs (Ent.takes (Q := Own 3 1 (.slice Al 3 cl) 3 [.int .i64 ((word s 6 / 16384 % 4 : Nat) : Int), .int .i64 ((word s 6 / 8192 % 2 : Nat) : Int), .int .i64 ((word s 6 % 8192 : Nat) : Int)])))) fun hA => ?_
    obtain ⟨bl, ol, rfl⟩ : ∃ b o, Al = some (ad b o) := by rcases hA with ⟨_, _, h, _⟩ | h; cases h; exact h
    refine jg<|ea r ?_
    first | refine lv (opv_neq r r) r ?_ | refine lv (opv_neqS r r) r ?_ | refine lv (opv_neqNil r r) r ?_ | refine lv (opv_neqB r r) r ?_
    refine nk ?_
    refine J_cond rfl (fun h2 => ?_) (fun h2 => ?_)
    · refine sr<|lv (opv_build r) r ?_
      refine lx r (opx_store r r r (by simp [Value.oneCell'])) fun _ _=>an r<|jr<|kd ?_
      have e : decP s = (pkz, 13) := by unfold decP; rw [if_neg (by omega), if_pos (by omega)]
      exact K_ret2c rfl rfl rfl rfl () trivial (by rw [e]; rfl) Ent.take
    · refine sk<|js<|sa r ?_
      first | refine lv (opv_neq r r) r ?_ | refine lv (opv_neqS r r) r ?_ | refine lv (opv_neqNil r r) r ?_ | refine lv (opv_neqB r r) r ?_
      refine ea r ?_
      refine L_gf rfl rfl (fun h3 => ?_) (fun h3 => ?_) (fun _ h => by cases h; rfl)
      · refine ea r<|L_gf_on h3 r r<|lv (opv_lss r r) r<|lv (opv_pick_f r h3 r) r<|ea r ?_
        refine L_gf rfl rfl (fun h4 => ?_) (fun h4 => ?_) (fun _ h => by cases h; rfl)
        · refine ea r<|L_gf_on h4 r r ?_
          first | refine ll r ?_ | refine lv (opv_lenS r) r ?_
          refine L_gf_on h4 r r<|cy parts_spec r fun b40=>L_gf_on h4 r r ?_
          first | refine ll r ?_ | refine lv (opv_lenS r) r ?_
          refine L_gf_on h4 r r<|lv ((opv_neq r r).bool_f (by decide)) r<|lv (opv_pick_f r h4 r) r<|ea r<|go r<|ea r<|go r ?_
          first | refine lv (opv_indexAddr r r (by omega)) r ?_ | refine lv (opv_indexAddrA r r (by omega)) r ?_
          refine go r<|lv (opv_load r (Rd.of_take (S := Own 3 1 (.slice (some (ad bl ol)) 3 cl) 3 [.int .i64 ((word s 6 / 16384 % 4 : Nat) : Int), .int .i64 ((word s 6 / 8192 % 2 : Nat) : Int), .int .i64 ((word s 6 % 8192 : Nat) : Int)]) (Rd.own (j := 0) r))) r<|go r ?_
          first | refine lv (opv_neq r r) r ?_ | refine lv (opv_neqS r r) r ?_ | refine lv (opv_neqNil r r) r ?_ | refine lv (opv_neqB r r) r ?_
          first | refine ea r ?_ | refine lv (opv_pick r r r) r ?_
          refine nk ?_
          refine J_cond rfl (fun h5 => ?_) (fun h5 => ?_)
          · refine sr<|lv (opv_build r) r ?_
            refine lx r (opx_store r r r (by simp [Value.oneCell'])) fun _ _=>an r<|jr<|kd ?_
            have e : decP s = (pkz, 15) := by unfold decP; rw [if_neg (by omega), if_neg (by omega), if_pos (by omega)]
            exact K_ret2c rfl rfl rfl rfl () trivial (by rw [e]; rfl) Ent.take
          · refine sk<|js<|J_steps (Own 3 1 (.slice (some (ad bl ol)) 3 cl) 3 [.int .i64 ((word s 6 / 16384 % 4 : Nat) : Int), .int .i64 ((word s 6 / 8192 % 2 : Nat) : Int), .int .i64 ((word s 6 % 8192 : Nat) : Int)]) (Own 3 1 (.slice (some (ad bl ol)) 3 cl) 3 [.int .i64 ((word s 6 / 16384 % 4 : Nat) : Int), .int .i64 ((word s 6 / 8192 % 2 : Nat) : Int), .int .i64 ((word s 6 % 8192 : Nat) : Int)]) [] Tryz.mixed<|pe 0 r r ?_
            first | refine ps 1 r (opv_indexAddr r r (by omega)) ?_ | refine ps 1 r (opv_indexAddrA r r (by omega)) ?_
            refine R_ts 2 r (by kernel_rfl) (opv_load r (Rd.of_take (S := Own 3 1 (.slice (some (ad bl ol)) 3 cl) 3 [.int .i64 ((word s 6 / 16384 % 4 : Nat) : Int), .int .i64 ((word s 6 / 8192 % 2 : Nat) : Int), .int .i64 ((word s 6 % 8192 : Nat) : Int)]) (Rd.own (j := 1) r))) r<|ps 3 r ((opv_eql r r).as (v' := .bool (decide (word s 6 / 8192 % 2 = 1))) (congrArg Value.bool (decide_eq_decide.2 (by omega))))<|pe 4 r r ?_
            first | refine ps 5 r (opv_indexAddr r r (by omega)) ?_ | refine ps 5 r (opv_indexAddrA r r (by omega)) ?_
            refine R_ts 6 r (by kernel_rfl) (opv_load r (Rd.of_take (S := Own 3 1 (.slice (some (ad bl ol)) 3 cl) 3 [.int .i64 ((word s 6 / 16384 % 4 : Nat) : Int), .int .i64 ((word s 6 / 8192 % 2 : Nat) : Int), .int .i64 ((word s 6 % 8192 : Nat) : Int)]) (Rd.own (j := 2) r))) r ?_
            first | refine ps 7 r (opv_fieldAddr0 r) ?_ | refine ps 7 r (opv_fieldAddr r) ?_
            refine pn 8 r (opx_store r r r (by simp [Value.oneCell'])) fun _ _=>?_
            first | refine ps 9 r (opv_fieldAddr0 r) ?_ | refine ps 9 r (opv_fieldAddr r) ?_
            refine pn 10 r (opx_store r r r (by simp [Value.oneCell'])) fun _ _=>dn<|kt<|sa r<|cy (RU8_at p 8 s (by omega)) r fun _=>ea r<|cy (RU8_at p 9 s (by omega)) r fun _=>?_
            first | refine fz r ?_ | refine fy r ?_
            refine lx r (opx_store r r r (by simp [Value.oneCell'])) fun _ _=>?_
            first | refine fz r ?_ | refine fy r ?_
            refine lx r (opx_store r r r (by simp [Value.oneCell'])) fun _ _=>nj<|sa r<|lv ((opv_sliceShi r r (by omega)).as (congrArg (fun k => Value.string (s.extract 0 k)) (show Int.toNat 20 = 20 from r))) r<|cy (Ones_spec (s.extract 0 20) (by rw [ext_size _ _ _ (by omega)]; decide)) r fun _=>L_emp<|lv ((opv_neq r r).as (v' := .bool (decide (ones (s.extract 0 20) ≠ 0))) (congrArg Value.bool (decide_eq_decide.2 (by omega)))) r<|ea r ?_
            refine L_gf rfl rfl (fun h6 => ?_) (fun h6 => ?_) (fun _ h => by cases h; rfl)
            · refine ea r<|L_gf_on h6 r r<|cy (twice_spec s (by omega) hs) r fun _=>L_emp<|lv (opv_pick_f r h6 r) r<|nk ?_
              refine J_cond rfl (fun h7 => ?_) (fun h7 => ?_)
              · refine sr<|lv (opv_build r) r ?_
                refine lx r (opx_store r r r (by simp [Value.oneCell'])) fun _ _=>an r<|jr<|kd ?_
                have e : decP s = (pkz, 12) := by unfold decP; rw [if_neg (by omega), if_neg (by omega), if_neg (by omega), if_pos (by first | assumption | exact fun e => absurd (sealed_zero (by omega) (by omega) e) (by assumption))]
                exact K_ret2c rfl rfl rfl rfl () trivial (by rw [e]; rfl) Ent.take
              · refine sk<|sa r<|cy (RU16_at p 10 s (by omega)) r fun _=>nk ?_
                refine J_cut (X := Unit) (fun _ => [(0, .string s), (2, .pointer (some (ad b2 0))), (7, .int .i64 (word s 2 : Nat)), (8, .pointer (some (ad b8 0)))]) (fun _ => (sep (cel b8 [.int .i64 (word s 4 : Nat), .bool (decide (word s 6 / 8192 % 2 = 1)), .int .i64 ((word s 6 % 8192 : Nat) : Int), .int .i64 (bn s 8 : Nat), .int .i64 (bn s 9 : Nat), .int .u8 (bn s 12 : Nat), .int .u8 (bn s 13 : Nat), .int .u8 (bn s 14 : Nat), .int .u8 (bn s 15 : Nat), .int .u8 (bn s 16 : Nat), .int .u8 (bn s 17 : Nat), .int .u8 (bn s 18 : Nat), .int .u8 (bn s 19 : Nat), .string ⟨#[]⟩] 39) (sep (cel b2 [.int .i64 0, .bool false, .int .i64 0, .int .i64 0, .int .i64 0, .int .u8 0, .int .u8 0, .int .u8 0, .int .u8 0, .int .u8 0, .int .u8 0, .int .u8 0, .int .u8 0, .string ⟨#[]⟩] 39) (F)))) (fun _ => True) ?_ (fun _ _ => ?_)
                · refine J_steps (emp) (emp) [] Tryz.mixed<|pe 0 r r<|pe 5 r r<|pn 1 r (opx_call0 (RText_at p 12 4 s (by omega)) r r r) fun _ _=>?_
                  refine R_all [2, 6] (by kernel_rfl) rfl fun i hi => ?_
                  simp only [List.mem_cons, List.not_mem_nil, or_false] at hi
                  rcases hi with rfl | rfl
                  · refine ⟨_, _, _, _, _, rfl, rfl, (opx_s2b rfl rfl), fun y79 _ => ⟨⟨_, Take.eq (A := emp)⟩, .inr ⟨_, Take.eq (A := emp)⟩, ?_⟩⟩
                    refine ps 3 r (opv_s2a r (by rw [ext_size _ _ _ (by omega)]; decide)) ?_
                    refine R_all [4, 6] (by kernel_rfl) rfl fun i hi => ?_
                    simp only [List.mem_cons, List.not_mem_nil, or_false] at hi
                    rcases hi with rfl | rfl
                    · refine ⟨_, _, _, _, _, rfl, rfl, (((opv_loadN (vs := [.int .u8 (bn (s.extract 12 (12 + 4)) 0 : Nat), .int .u8 (bn (s.extract 12 (12 + 4)) 1 : Nat), .int .u8 (bn (s.extract 12 (12 + 4)) 2 : Nat), .int .u8 (bn (s.extract 12 (12 + 4)) 3 : Nat)]) rfl rfl (Rd4 (c := y79.2) (e := 5) (T := (s.extract 12 (12 + 4))) (ext_size _ _ _ (by omega)))).as (v' := .agg [.int .u8 (bn s 12 : Nat), .int .u8 (bn s 13 : Nat), .int .u8 (bn s 14 : Nat), .int .u8 (bn s 15 : Nat)].toArray) (by rw [bn_extract (by omega) (by omega), bn_extract (by omega) (by omega), bn_extract (by omega) (by omega), bn_extract (by omega) (by omega)])).opx rfl rfl), fun _ _ => ⟨⟨_, Take.eq (A := emp)⟩, .inr ⟨_, Take.eq (A := emp)⟩, ?_⟩⟩
                      first | refine ps 10 r (opv_fieldAddr0 r) ?_ | refine ps 10 r (opv_fieldAddr r) ?_
                      refine pn 6 r (opx_call0 (RText_at p 16 4 s (by omega)) r r r) fun _ _=>?_
                      refine R_all [7, 11] (by kernel_rfl) rfl fun i hi => ?_
                      simp only [List.mem_cons, List.not_mem_nil, or_false] at hi
                      rcases hi with rfl | rfl
                      · refine ⟨_, _, _, _, _, rfl, rfl, (opx_s2b rfl rfl), fun y84 _ => ⟨⟨_, Take.eq (A := emp)⟩, .inr ⟨_, Take.eq (A := emp)⟩, ?_⟩⟩
                        refine ps 8 r (opv_s2a r (by rw [ext_size _ _ _ (by omega)]; decide)) ?_
                        refine R_all [9, 11] (by kernel_rfl) rfl fun i hi => ?_
                        simp only [List.mem_cons, List.not_mem_nil, or_false] at hi
                        rcases hi with rfl | rfl
                        · refine ⟨_, _, _, _, _, rfl, rfl, (((opv_loadN (vs := [.int .u8 (bn (s.extract 16 (16 + 4)) 0 : Nat), .int .u8 (bn (s.extract 16 (16 + 4)) 1 : Nat), .int .u8 (bn (s.extract 16 (16 + 4)) 2 : Nat), .int .u8 (bn (s.extract 16 (16 + 4)) 3 : Nat)]) rfl rfl (Rd4 (c := y84.2) (e := 5) (T := (s.extract 16 (16 + 4))) (ext_size _ _ _ (by omega)))).as (v' := .agg [.int .u8 (bn s 16 : Nat), .int .u8 (bn s 17 : Nat), .int .u8 (bn s 18 : Nat), .int .u8 (bn s 19 : Nat)].toArray) (by rw [bn_extract (by omega) (by omega), bn_extract (by omega) (by omega), bn_extract (by omega) (by omega), bn_extract (by omega) (by omega)])).opx rfl rfl), fun _ _ => ⟨⟨_, Take.eq (A := emp)⟩, .inr ⟨_, Take.eq (A := emp)⟩, ?_⟩⟩
                          refine pn 11 r (opx_store r r r (by simp [Value.oneCell'])) fun _ _=>?_
                          first | refine ps 12 r (opv_fieldAddr0 r) ?_ | refine ps 12 r (opv_fieldAddr r) ?_
                          refine pn 13 r (opx_store r r r (by simp [Value.oneCell'])) fun _ _=>dn ?_
                          exact K_cut () trivial ⟨rfl, rfl, rfl, rfl, trivial⟩ Ent.take
                        · refine ⟨_, _, _, _, _, rfl, rfl, (opx_store rfl rfl rfl (by simp [Value.oneCell'])), fun _ _ => ⟨⟨_, Take.eq (A := emp)⟩, .inr ⟨_, Take.eq (A := emp)⟩, ?_⟩⟩
                          refine pn 9 r (((opv_loadN (vs := [.int .u8 (bn (s.extract 16 (16 + 4)) 0 : Nat), .int .u8 (bn (s.extract 16 (16 + 4)) 1 : Nat), .int .u8 (bn (s.extract 16 (16 + 4)) 2 : Nat), .int .u8 (bn (s.extract 16 (16 + 4)) 3 : Nat)]) r r (Rd4 (c := y84.2) (e := 5) (T := (s.extract 16 (16 + 4))) (ext_size _ _ _ (by omega)))).as (v' := .agg [.int .u8 (bn s 16 : Nat), .int .u8 (bn s 17 : Nat), .int .u8 (bn s 18 : Nat), .int .u8 (bn s 19 : Nat)].toArray) (by rw [bn_extract (by omega) (by omega), bn_extract (by omega) (by omega), bn_extract (by omega) (by omega), bn_extract (by omega) (by omega)])).opx r r) fun _ _=>?_
                          first | refine ps 12 r (opv_fieldAddr0 r) ?_ | refine ps 12 r (opv_fieldAddr r) ?_
                          refine pn 13 r (opx_store r r r (by simp [Value.oneCell'])) fun _ _=>dn ?_
                          exact K_cut () trivial ⟨rfl, rfl, rfl, rfl, trivial⟩ Ent.take
                      · refine ⟨_, _, _, _, _, rfl, rfl, (opx_store rfl rfl rfl (by simp [Value.oneCell'])), fun _ _ => ⟨⟨_, Take.eq (A := emp)⟩, .inr ⟨_, Take.eq (A := emp)⟩, ?_⟩⟩
                        refine pn 7 r (opx_s2b r r) fun y84 _=>ps 8 r (opv_s2a r (by rw [ext_size _ _ _ (by omega)]; decide))<|pn 9 r (((opv_loadN (vs := [.int .u8 (bn (s.extract 16 (16 + 4)) 0 : Nat), .int .u8 (bn (s.extract 16 (16 + 4)) 1 : Nat), .int .u8 (bn (s.extract 16 (16 + 4)) 2 : Nat), .int .u8 (bn (s.extract 16 (16 + 4)) 3 : Nat)]) r r (Rd4 (c := y84.2) (e := 5) (T := (s.extract 16 (16 + 4))) (ext_size _ _ _ (by omega)))).as (v' := .agg [.int .u8 (bn s 16 : Nat), .int .u8 (bn s 17 : Nat), .int .u8 (bn s 18 : Nat), .int .u8 (bn s 19 : Nat)].toArray) (by rw [bn_extract (by omega) (by omega), bn_extract (by omega) (by omega), bn_extract (by omega) (by omega), bn_extract (by omega) (by omega)])).opx r r) fun _ _=>?_
                        first | refine ps 12 r (opv_fieldAddr0 r) ?_ | refine ps 12 r (opv_fieldAddr r) ?_
                        refine pn 13 r (opx_store r r r (by simp [Value.oneCell'])) fun _ _=>dn ?_
                        exact K_cut () trivial ⟨rfl, rfl, rfl, rfl, trivial⟩ Ent.take
                    · refine ⟨_, _, _, _, _, rfl, rfl, (opx_call0 (RText_at p 16 4 s (by omega)) rfl rfl rfl), fun _ _ => ⟨⟨_, Take.eq (A := emp)⟩, .inr ⟨_, Take.eq (A := emp)⟩, ?_⟩⟩
                      refine R_all [4, 7] (by kernel_rfl) rfl fun i hi => ?_
                      simp only [List.mem_cons, List.not_mem_nil, or_false] at hi
                      rcases hi with rfl | rfl
                      · refine ⟨_, _, _, _, _, rfl, rfl, (((opv_loadN (vs := [.int .u8 (bn (s.extract 12 (12 + 4)) 0 : Nat), .int .u8 (bn (s.extract 12 (12 + 4)) 1 : Nat), .int .u8 (bn (s.extract 12 (12 + 4)) 2 : Nat), .int .u8 (bn (s.extract 12 (12 + 4)) 3 : Nat)]) rfl rfl (Rd4 (c := y79.2) (e := 5) (T := (s.extract 12 (12 + 4))) (ext_size _ _ _ (by omega)))).as (v' := .agg [.int .u8 (bn s 12 : Nat), .int .u8 (bn s 13 : Nat), .int .u8 (bn s 14 : Nat), .int .u8 (bn s 15 : Nat)].toArray) (by rw [bn_extract (by omega) (by omega), bn_extract (by omega) (by omega), bn_extract (by omega) (by omega), bn_extract (by omega) (by omega)])).opx rfl rfl), fun _ _ => ⟨⟨_, Take.eq (A := emp)⟩, .inr ⟨_, Take.eq (A := emp)⟩, ?_⟩⟩
                        first | refine ps 10 r (opv_fieldAddr0 r) ?_ | refine ps 10 r (opv_fieldAddr r) ?_
                        refine R_all [7, 11] (by kernel_rfl) rfl fun i hi => ?_
                        simp only [List.mem_cons, List.not_mem_nil, or_false] at hi
                        rcases hi with rfl | rfl
                        · refine ⟨_, _, _, _, _, rfl, rfl, (opx_s2b rfl rfl), fun y84 _ => ⟨⟨_, Take.eq (A := emp)⟩, .inr ⟨_, Take.eq (A := emp)⟩, ?_⟩⟩
                          refine ps 8 r (opv_s2a r (by rw [ext_size _ _ _ (by omega)]; decide)) ?_
                          refine R_all [9, 11] (by kernel_rfl) rfl fun i hi => ?_
                          simp only [List.mem_cons, List.not_mem_nil, or_false] at hi
                          rcases hi with rfl | rfl
                          · refine ⟨_, _, _, _, _, rfl, rfl, (((opv_loadN (vs := [.int .u8 (bn (s.extract 16 (16 + 4)) 0 : Nat), .int .u8 (bn (s.extract 16 (16 + 4)) 1 : Nat), .int .u8 (bn (s.extract 16 (16 + 4)) 2 : Nat), .int .u8 (bn (s.extract 16 (16 + 4)) 3 : Nat)]) rfl rfl (Rd4 (c := y84.2) (e := 5) (T := (s.extract 16 (16 + 4))) (ext_size _ _ _ (by omega)))).as (v' := .agg [.int .u8 (bn s 16 : Nat), .int .u8 (bn s 17 : Nat), .int .u8 (bn s 18 : Nat), .int .u8 (bn s 19 : Nat)].toArray) (by rw [bn_extract (by omega) (by omega), bn_extract (by omega) (by omega), bn_extract (by omega) (by omega), bn_extract (by omega) (by omega)])).opx rfl rfl), fun _ _ => ⟨⟨_, Take.eq (A := emp)⟩, .inr ⟨_, Take.eq (A := emp)⟩, ?_⟩⟩
                            refine pn 11 r (opx_store r r r (by simp [Value.oneCell'])) fun _ _=>?_
                            first | refine ps 12 r (opv_fieldAddr0 r) ?_ | refine ps 12 r (opv_fieldAddr r) ?_
                            refine pn 13 r (opx_store r r r (by simp [Value.oneCell'])) fun _ _=>dn ?_
                            exact K_cut () trivial ⟨rfl, rfl, rfl, rfl, trivial⟩ Ent.take
                          · refine ⟨_, _, _, _, _, rfl, rfl, (opx_store rfl rfl rfl (by simp [Value.oneCell'])), fun _ _ => ⟨⟨_, Take.eq (A := emp)⟩, .inr ⟨_, Take.eq (A := emp)⟩, ?_⟩⟩
                            refine pn 9 r (((opv_loadN (vs := [.int .u8 (bn (s.extract 16 (16 + 4)) 0 : Nat), .int .u8 (bn (s.extract 16 (16 + 4)) 1 : Nat), .int .u8 (bn (s.extract 16 (16 + 4)) 2 : Nat), .int .u8 (bn (s.extract 16 (16 + 4)) 3 : Nat)]) r r (Rd4 (c := y84.2) (e := 5) (T := (s.extract 16 (16 + 4))) (ext_size _ _ _ (by omega)))).as (v' := .agg [.int .u8 (bn s 16 : Nat), .int .u8 (bn s 17 : Nat), .int .u8 (bn s 18 : Nat), .int .u8 (bn s 19 : Nat)].toArray) (by rw [bn_extract (by omega) (by omega), bn_extract (by omega) (by omega), bn_extract (by omega) (by omega), bn_extract (by omega) (by omega)])).opx r r) fun _ _=>?_
                            first | refine ps 12 r (opv_fieldAddr0 r) ?_ | refine ps 12 r (opv_fieldAddr r) ?_
                            refine pn 13 r (opx_store r r r (by simp [Value.oneCell'])) fun _ _=>dn ?_
                            exact K_cut () trivial ⟨rfl, rfl, rfl, rfl, trivial⟩ Ent.take
                        · refine ⟨_, _, _, _, _, rfl, rfl, (opx_store rfl rfl rfl (by simp [Value.oneCell'])), fun _ _ => ⟨⟨_, Take.eq (A := emp)⟩, .inr ⟨_, Take.eq (A := emp)⟩, ?_⟩⟩
                          refine pn 7 r (opx_s2b r r) fun y84 _=>ps 8 r (opv_s2a r (by rw [ext_size _ _ _ (by omega)]; decide))<|pn 9 r (((opv_loadN (vs := [.int .u8 (bn (s.extract 16 (16 + 4)) 0 : Nat), .int .u8 (bn (s.extract 16 (16 + 4)) 1 : Nat), .int .u8 (bn (s.extract 16 (16 + 4)) 2 : Nat), .int .u8 (bn (s.extract 16 (16 + 4)) 3 : Nat)]) r r (Rd4 (c := y84.2) (e := 5) (T := (s.extract 16 (16 + 4))) (ext_size _ _ _ (by omega)))).as (v' := .agg [.int .u8 (bn s 16 : Nat), .int .u8 (bn s 17 : Nat), .int .u8 (bn s 18 : Nat), .int .u8 (bn s 19 : Nat)].toArray) (by rw [bn_extract (by omega) (by omega), bn_extract (by omega) (by omega), bn_extract (by omega) (by omega), bn_extract (by omega) (by omega)])).opx r r) fun _ _=>?_
                          first | refine ps 12 r (opv_fieldAddr0 r) ?_ | refine ps 12 r (opv_fieldAddr r) ?_
                          refine pn 13 r (opx_store r r r (by simp [Value.oneCell'])) fun _ _=>dn ?_
                          exact K_cut () trivial ⟨rfl, rfl, rfl, rfl, trivial⟩ Ent.take
                      · refine ⟨_, _, _, _, _, rfl, rfl, (opx_s2b rfl rfl), fun y84 _ => ⟨⟨_, Take.eq (A := emp)⟩, .inr ⟨_, Take.eq (A := emp)⟩, ?_⟩⟩
                        refine ps 8 r (opv_s2a r (by rw [ext_size _ _ _ (by omega)]; decide)) ?_
                        refine R_all [4, 9] (by kernel_rfl) rfl fun i hi => ?_
                        simp only [List.mem_cons, List.not_mem_nil, or_false] at hi
                        rcases hi with rfl | rfl
                        · refine ⟨_, _, _, _, _, rfl, rfl, (((opv_loadN (vs := [.int .u8 (bn (s.extract 12 (12 + 4)) 0 : Nat), .int .u8 (bn (s.extract 12 (12 + 4)) 1 : Nat), .int .u8 (bn (s.extract 12 (12 + 4)) 2 : Nat), .int .u8 (bn (s.extract 12 (12 + 4)) 3 : Nat)]) rfl rfl (Rd4 (c := y79.2) (e := 5) (T := (s.extract 12 (12 + 4))) (ext_size _ _ _ (by omega)))).as (v' := .agg [.int .u8 (bn s 12 : Nat), .int .u8 (bn s 13 : Nat), .int .u8 (bn s 14 : Nat), .int .u8 (bn s 15 : Nat)].toArray) (by rw [bn_extract (by omega) (by omega), bn_extract (by omega) (by omega), bn_extract (by omega) (by omega), bn_extract (by omega) (by omega)])).opx rfl rfl), fun _ _ => ⟨⟨_, Take.eq (A := emp)⟩, .inr ⟨_, Take.eq (A := emp)⟩, ?_⟩⟩
                          first | refine ps 10 r (opv_fieldAddr0 r) ?_ | refine ps 10 r (opv_fieldAddr r) ?_
                          refine R_all [9, 11] (by kernel_rfl) rfl fun i hi => ?_
                          simp only [List.mem_cons, List.not_mem_nil, or_false] at hi
                          rcases hi with rfl | rfl
                          · refine ⟨_, _, _, _, _, rfl, rfl, (((opv_loadN (vs := [.int .u8 (bn (s.extract 16 (16 + 4)) 0 : Nat), .int .u8 (bn (s.extract 16 (16 + 4)) 1 : Nat), .int .u8 (bn (s.extract 16 (16 + 4)) 2 : Nat), .int .u8 (bn (s.extract 16 (16 + 4)) 3 : Nat)]) rfl rfl (Rd4 (c := y84.2) (e := 5) (T := (s.extract 16 (16 + 4))) (ext_size _ _ _ (by omega)))).as (v' := .agg [.int .u8 (bn s 16 : Nat), .int .u8 (bn s 17 : Nat), .int .u8 (bn s 18 : Nat), .int .u8 (bn s 19 : Nat)].toArray) (by rw [bn_extract (by omega) (by omega), bn_extract (by omega) (by omega), bn_extract (by omega) (by omega), bn_extract (by omega) (by omega)])).opx rfl rfl), fun _ _ => ⟨⟨_, Take.eq (A := emp)⟩, .inr ⟨_, Take.eq (A := emp)⟩, ?_⟩⟩
                            refine pn 11 r (opx_store r r r (by simp [Value.oneCell'])) fun _ _=>?_
                            first | refine ps 12 r (opv_fieldAddr0 r) ?_ | refine ps 12 r (opv_fieldAddr r) ?_
                            refine pn 13 r (opx_store r r r (by simp [Value.oneCell'])) fun _ _=>dn ?_
                            exact K_cut () trivial ⟨rfl, rfl, rfl, rfl, trivial⟩ Ent.take
                          · refine ⟨_, _, _, _, _, rfl, rfl, (opx_store rfl rfl rfl (by simp [Value.oneCell'])), fun _ _ => ⟨⟨_, Take.eq (A := emp)⟩, .inr ⟨_, Take.eq (A := emp)⟩, ?_⟩⟩
                            refine pn 9 r (((opv_loadN (vs := [.int .u8 (bn (s.extract 16 (16 + 4)) 0 : Nat), .int .u8 (bn (s.extract 16 (16 + 4)) 1 : Nat), .int .u8 (bn (s.extract 16 (16 + 4)) 2 : Nat), .int .u8 (bn (s.extract 16 (16 + 4)) 3 : Nat)]) r r (Rd4 (c := y84.2) (e := 5) (T := (s.extract 16 (16 + 4))) (ext_size _ _ _ (by omega)))).as (v' := .agg [.int .u8 (bn s 16 : Nat), .int .u8 (bn s 17 : Nat), .int .u8 (bn s 18 : Nat), .int .u8 (bn s 19 : Nat)].toArray) (by rw [bn_extract (by omega) (by omega), bn_extract (by omega) (by omega), bn_extract (by omega) (by omega), bn_extract (by omega) (by omega)])).opx r r) fun _ _=>?_
                            first | refine ps 12 r (opv_fieldAddr0 r) ?_ | refine ps 12 r (opv_fieldAddr r) ?_
                            refine pn 13 r (opx_store r r r (by simp [Value.oneCell'])) fun _ _=>dn ?_
                            exact K_cut () trivial ⟨rfl, rfl, rfl, rfl, trivial⟩ Ent.take
                        · refine ⟨_, _, _, _, _, rfl, rfl, (((opv_loadN (vs := [.int .u8 (bn (s.extract 16 (16 + 4)) 0 : Nat), .int .u8 (bn (s.extract 16 (16 + 4)) 1 : Nat), .int .u8 (bn (s.extract 16 (16 + 4)) 2 : Nat), .int .u8 (bn (s.extract 16 (16 + 4)) 3 : Nat)]) rfl rfl (Rd4 (c := y84.2) (e := 5) (T := (s.extract 16 (16 + 4))) (ext_size _ _ _ (by omega)))).as (v' := .agg [.int .u8 (bn s 16 : Nat), .int .u8 (bn s 17 : Nat), .int .u8 (bn s 18 : Nat), .int .u8 (bn s 19 : Nat)].toArray) (by rw [bn_extract (by omega) (by omega), bn_extract (by omega) (by omega), bn_extract (by omega) (by omega), bn_extract (by omega) (by omega)])).opx rfl rfl), fun _ _ => ⟨⟨_, Take.eq (A := emp)⟩, .inr ⟨_, Take.eq (A := emp)⟩, ?_⟩⟩
                          refine pn 4 r (((opv_loadN (vs := [.int .u8 (bn (s.extract 12 (12 + 4)) 0 : Nat), .int .u8 (bn (s.extract 12 (12 + 4)) 1 : Nat), .int .u8 (bn (s.extract 12 (12 + 4)) 2 : Nat), .int .u8 (bn (s.extract 12 (12 + 4)) 3 : Nat)]) r r (Rd4 (c := y79.2) (e := 5) (T := (s.extract 12 (12 + 4))) (ext_size _ _ _ (by omega)))).as (v' := .agg [.int .u8 (bn s 12 : Nat), .int .u8 (bn s 13 : Nat), .int .u8 (bn s 14 : Nat), .int .u8 (bn s 15 : Nat)].toArray) (by rw [bn_extract (by omega) (by omega), bn_extract (by omega) (by omega), bn_extract (by omega) (by omega), bn_extract (by omega) (by omega)])).opx r r) fun _ _=>?_
                          first | refine ps 10 r (opv_fieldAddr0 r) ?_ | refine ps 10 r (opv_fieldAddr r) ?_
                          refine pn 11 r (opx_store r r r (by simp [Value.oneCell'])) fun _ _=>?_
                          first | refine ps 12 r (opv_fieldAddr0 r) ?_ | refine ps 12 r (opv_fieldAddr r) ?_
                          refine pn 13 r (opx_store r r r (by simp [Value.oneCell'])) fun _ _=>dn ?_
                          exact K_cut () trivial ⟨rfl, rfl, rfl, rfl, trivial⟩ Ent.take
                  · refine ⟨_, _, _, _, _, rfl, rfl, (opx_call0 (RText_at p 16 4 s (by omega)) rfl rfl rfl), fun _ _ => ⟨⟨_, Take.eq (A := emp)⟩, .inr ⟨_, Take.eq (A := emp)⟩, ?_⟩⟩
                    refine R_all [2, 7] (by kernel_rfl) rfl fun i hi => ?_
                    simp only [List.mem_cons, List.not_mem_nil, or_false] at hi
                    rcases hi with rfl | rfl
                    · refine ⟨_, _, _, _, _, rfl, rfl, (opx_s2b rfl rfl), fun y79 _ => ⟨⟨_, Take.eq (A := emp)⟩, .inr ⟨_, Take.eq (A := emp)⟩, ?_⟩⟩
                      refine ps 3 r (opv_s2a r (by rw [ext_size _ _ _ (by omega)]; decide)) ?_
                      refine R_all [4, 7] (by kernel_rfl) rfl fun i hi => ?_
                      simp only [List.mem_cons, List.not_mem_nil, or_false] at hi
                      rcases hi with rfl | rfl
                      · refine ⟨_, _, _, _, _, rfl, rfl, (((opv_loadN (vs := [.int .u8 (bn (s.extract 12 (12 + 4)) 0 : Nat), .int .u8 (bn (s.extract 12 (12 + 4)) 1 : Nat), .int .u8 (bn (s.extract 12 (12 + 4)) 2 : Nat), .int .u8 (bn (s.extract 12 (12 + 4)) 3 : Nat)]) rfl rfl (Rd4 (c := y79.2) (e := 5) (T := (s.extract 12 (12 + 4))) (ext_size _ _ _ (by omega)))).as (v' := .agg [.int .u8 (bn s 12 : Nat), .int .u8 (bn s 13 : Nat), .int .u8 (bn s 14 : Nat), .int .u8 (bn s 15 : Nat)].toArray) (by rw [bn_extract (by omega) (by omega), bn_extract (by omega) (by omega), bn_extract (by omega) (by omega), bn_extract (by omega) (by omega)])).opx rfl rfl), fun _ _ => ⟨⟨_, Take.eq (A := emp)⟩, .inr ⟨_, Take.eq (A := emp)⟩, ?_⟩⟩
                        first | refine ps 10 r (opv_fieldAddr0 r) ?_ | refine ps 10 r (opv_fieldAddr r) ?_
                        refine R_all [7, 11] (by kernel_rfl) rfl fun i hi => ?_
                        simp only [List.mem_cons, List.not_mem_nil, or_false] at hi
                        rcases hi with rfl | rfl
                        · refine ⟨_, _, _, _, _, rfl, rfl, (opx_s2b rfl rfl), fun y84 _ => ⟨⟨_, Take.eq (A := emp)⟩, .inr ⟨_, Take.eq (A := emp)⟩, ?_⟩⟩
                          refine ps 8 r (opv_s2a r (by rw [ext_size _ _ _ (by omega)]; decide)) ?_
                          refine R_all [9, 11] (by kernel_rfl) rfl fun i hi => ?_
                          simp only [List.mem_cons, List.not_mem_nil, or_false] at hi
                          rcases hi with rfl | rfl
                          · refine ⟨_, _, _, _, _, rfl, rfl, (((opv_loadN (vs := [.int .u8 (bn (s.extract 16 (16 + 4)) 0 : Nat), .int .u8 (bn (s.extract 16 (16 + 4)) 1 : Nat), .int .u8 (bn (s.extract 16 (16 + 4)) 2 : Nat), .int .u8 (bn (s.extract 16 (16 + 4)) 3 : Nat)]) rfl rfl (Rd4 (c := y84.2) (e := 5) (T := (s.extract 16 (16 + 4))) (ext_size _ _ _ (by omega)))).as (v' := .agg [.int .u8 (bn s 16 : Nat), .int .u8 (bn s 17 : Nat), .int .u8 (bn s 18 : Nat), .int .u8 (bn s 19 : Nat)].toArray) (by rw [bn_extract (by omega) (by omega), bn_extract (by omega) (by omega), bn_extract (by omega) (by omega), bn_extract (by omega) (by omega)])).opx rfl rfl), fun _ _ => ⟨⟨_, Take.eq (A := emp)⟩, .inr ⟨_, Take.eq (A := emp)⟩, ?_⟩⟩
                            refine pn 11 r (opx_store r r r (by simp [Value.oneCell'])) fun _ _=>?_
                            first | refine ps 12 r (opv_fieldAddr0 r) ?_ | refine ps 12 r (opv_fieldAddr r) ?_
                            refine pn 13 r (opx_store r r r (by simp [Value.oneCell'])) fun _ _=>dn ?_
                            exact K_cut () trivial ⟨rfl, rfl, rfl, rfl, trivial⟩ Ent.take
                          · refine ⟨_, _, _, _, _, rfl, rfl, (opx_store rfl rfl rfl (by simp [Value.oneCell'])), fun _ _ => ⟨⟨_, Take.eq (A := emp)⟩, .inr ⟨_, Take.eq (A := emp)⟩, ?_⟩⟩
                            refine pn 9 r (((opv_loadN (vs := [.int .u8 (bn (s.extract 16 (16 + 4)) 0 : Nat), .int .u8 (bn (s.extract 16 (16 + 4)) 1 : Nat), .int .u8 (bn (s.extract 16 (16 + 4)) 2 : Nat), .int .u8 (bn (s.extract 16 (16 + 4)) 3 : Nat)]) r r (Rd4 (c := y84.2) (e := 5) (T := (s.extract 16 (16 + 4))) (ext_size _ _ _ (by omega)))).as (v' := .agg [.int .u8 (bn s 16 : Nat), .int .u8 (bn s 17 : Nat), .int .u8 (bn s 18 : Nat), .int .u8 (bn s 19 : Nat)].toArray) (by rw [bn_extract (by omega) (by omega), bn_extract (by omega) (by omega), bn_extract (by omega) (by omega), bn_extract (by omega) (by omega)])).opx r r) fun _ _=>?_
                            first | refine ps 12 r (opv_fieldAddr0 r) ?_ | refine ps 12 r (opv_fieldAddr r) ?_
                            refine pn 13 r (opx_store r r r (by simp [Value.oneCell'])) fun _ _=>dn ?_
                            exact K_cut () trivial ⟨rfl, rfl, rfl, rfl, trivial⟩ Ent.take
                        · refine ⟨_, _, _, _, _, rfl, rfl, (opx_store rfl rfl rfl (by simp [Value.oneCell'])), fun _ _ => ⟨⟨_, Take.eq (A := emp)⟩, .inr ⟨_, Take.eq (A := emp)⟩, ?_⟩⟩
                          refine pn 7 r (opx_s2b r r) fun y84 _=>ps 8 r (opv_s2a r (by rw [ext_size _ _ _ (by omega)]; decide))<|pn 9 r (((opv_loadN (vs := [.int .u8 (bn (s.extract 16 (16 + 4)) 0 : Nat), .int .u8 (bn (s.extract 16 (16 + 4)) 1 : Nat), .int .u8 (bn (s.extract 16 (16 + 4)) 2 : Nat), .int .u8 (bn (s.extract 16 (16 + 4)) 3 : Nat)]) r r (Rd4 (c := y84.2) (e := 5) (T := (s.extract 16 (16 + 4))) (ext_size _ _ _ (by omega)))).as (v' := .agg [.int .u8 (bn s 16 : Nat), .int .u8 (bn s 17 : Nat), .int .u8 (bn s 18 : Nat), .int .u8 (bn s 19 : Nat)].toArray) (by rw [bn_extract (by omega) (by omega), bn_extract (by omega) (by omega), bn_extract (by omega) (by omega), bn_extract (by omega) (by omega)])).opx r r) fun _ _=>?_
                          first | refine ps 12 r (opv_fieldAddr0 r) ?_ | refine ps 12 r (opv_fieldAddr r) ?_
                          refine pn 13 r (opx_store r r r (by simp [Value.oneCell'])) fun _ _=>dn ?_
                          exact K_cut () trivial ⟨rfl, rfl, rfl, rfl, trivial⟩ Ent.take
                      · refine ⟨_, _, _, _, _, rfl, rfl, (opx_s2b rfl rfl), fun y84 _ => ⟨⟨_, Take.eq (A := emp)⟩, .inr ⟨_, Take.eq (A := emp)⟩, ?_⟩⟩
                        refine ps 8 r (opv_s2a r (by rw [ext_size _ _ _ (by omega)]; decide)) ?_
                        refine R_all [4, 9] (by kernel_rfl) rfl fun i hi => ?_
                        simp only [List.mem_cons, List.not_mem_nil, or_false] at hi
                        rcases hi with rfl | rfl
                        · refine ⟨_, _, _, _, _, rfl, rfl, (((opv_loadN (vs := [.int .u8 (bn (s.extract 12 (12 + 4)) 0 : Nat), .int .u8 (bn (s.extract 12 (12 + 4)) 1 : Nat), .int .u8 (bn (s.extract 12 (12 + 4)) 2 : Nat), .int .u8 (bn (s.extract 12 (12 + 4)) 3 : Nat)]) rfl rfl (Rd4 (c := y79.2) (e := 5) (T := (s.extract 12 (12 + 4))) (ext_size _ _ _ (by omega)))).as (v' := .agg [.int .u8 (bn s 12 : Nat), .int .u8 (bn s 13 : Nat), .int .u8 (bn s 14 : Nat), .int .u8 (bn s 15 : Nat)].toArray) (by rw [bn_extract (by omega) (by omega), bn_extract (by omega) (by omega), bn_extract (by omega) (by omega), bn_extract (by omega) (by omega)])).opx rfl rfl), fun _ _ => ⟨⟨_, Take.eq (A := emp)⟩, .inr ⟨_, Take.eq (A := emp)⟩, ?_⟩⟩
                          first | refine ps 10 r (opv_fieldAddr0 r) ?_ | refine ps 10 r (opv_fieldAddr r) ?_
                          refine R_all [9, 11] (by kernel_rfl) rfl fun i hi => ?_
                          simp only [List.mem_cons, List.not_mem_nil, or_false] at hi
                          rcases hi with rfl | rfl
                          · refine ⟨_, _, _, _, _, rfl, rfl, (((opv_loadN (vs := [.int .u8 (bn (s.extract 16 (16 + 4)) 0 : Nat), .int .u8 (bn (s.extract 16 (16 + 4)) 1 : Nat), .int .u8 (bn (s.extract 16 (16 + 4)) 2 : Nat), .int .u8 (bn (s.extract 16 (16 + 4)) 3 : Nat)]) rfl rfl (Rd4 (c := y84.2) (e := 5) (T := (s.extract 16 (16 + 4))) (ext_size _ _ _ (by omega)))).as (v' := .agg [.int .u8 (bn s 16 : Nat), .int .u8 (bn s 17 : Nat), .int .u8 (bn s 18 : Nat), .int .u8 (bn s 19 : Nat)].toArray) (by rw [bn_extract (by omega) (by omega), bn_extract (by omega) (by omega), bn_extract (by omega) (by omega), bn_extract (by omega) (by omega)])).opx rfl rfl), fun _ _ => ⟨⟨_, Take.eq (A := emp)⟩, .inr ⟨_, Take.eq (A := emp)⟩, ?_⟩⟩
                            refine pn 11 r (opx_store r r r (by simp [Value.oneCell'])) fun _ _=>?_
                            first | refine ps 12 r (opv_fieldAddr0 r) ?_ | refine ps 12 r (opv_fieldAddr r) ?_
                            refine pn 13 r (opx_store r r r (by simp [Value.oneCell'])) fun _ _=>dn ?_
                            exact K_cut () trivial ⟨rfl, rfl, rfl, rfl, trivial⟩ Ent.take
                          · refine ⟨_, _, _, _, _, rfl, rfl, (opx_store rfl rfl rfl (by simp [Value.oneCell'])), fun _ _ => ⟨⟨_, Take.eq (A := emp)⟩, .inr ⟨_, Take.eq (A := emp)⟩, ?_⟩⟩
                            refine pn 9 r (((opv_loadN (vs := [.int .u8 (bn (s.extract 16 (16 + 4)) 0 : Nat), .int .u8 (bn (s.extract 16 (16 + 4)) 1 : Nat), .int .u8 (bn (s.extract 16 (16 + 4)) 2 : Nat), .int .u8 (bn (s.extract 16 (16 + 4)) 3 : Nat)]) r r (Rd4 (c := y84.2) (e := 5) (T := (s.extract 16 (16 + 4))) (ext_size _ _ _ (by omega)))).as (v' := .agg [.int .u8 (bn s 16 : Nat), .int .u8 (bn s 17 : Nat), .int .u8 (bn s 18 : Nat), .int .u8 (bn s 19 : Nat)].toArray) (by rw [bn_extract (by omega) (by omega), bn_extract (by omega) (by omega), bn_extract (by omega) (by omega), bn_extract (by omega) (by omega)])).opx r r) fun _ _=>?_
                            first | refine ps 12 r (opv_fieldAddr0 r) ?_ | refine ps 12 r (opv_fieldAddr r) ?_
                            refine pn 13 r (opx_store r r r (by simp [Value.oneCell'])) fun _ _=>dn ?_
                            exact K_cut () trivial ⟨rfl, rfl, rfl, rfl, trivial⟩ Ent.take
                        · refine ⟨_, _, _, _, _, rfl, rfl, (((opv_loadN (vs := [.int .u8 (bn (s.extract 16 (16 + 4)) 0 : Nat), .int .u8 (bn (s.extract 16 (16 + 4)) 1 : Nat), .int .u8 (bn (s.extract 16 (16 + 4)) 2 : Nat), .int .u8 (bn (s.extract 16 (16 + 4)) 3 : Nat)]) rfl rfl (Rd4 (c := y84.2) (e := 5) (T := (s.extract 16 (16 + 4))) (ext_size _ _ _ (by omega)))).as (v' := .agg [.int .u8 (bn s 16 : Nat), .int .u8 (bn s 17 : Nat), .int .u8 (bn s 18 : Nat), .int .u8 (bn s 19 : Nat)].toArray) (by rw [bn_extract (by omega) (by omega), bn_extract (by omega) (by omega), bn_extract (by omega) (by omega), bn_extract (by omega) (by omega)])).opx rfl rfl), fun _ _ => ⟨⟨_, Take.eq (A := emp)⟩, .inr ⟨_, Take.eq (A := emp)⟩, ?_⟩⟩
                          refine pn 4 r (((opv_loadN (vs := [.int .u8 (bn (s.extract 12 (12 + 4)) 0 : Nat), .int .u8 (bn (s.extract 12 (12 + 4)) 1 : Nat), .int .u8 (bn (s.extract 12 (12 + 4)) 2 : Nat), .int .u8 (bn (s.extract 12 (12 + 4)) 3 : Nat)]) r r (Rd4 (c := y79.2) (e := 5) (T := (s.extract 12 (12 + 4))) (ext_size _ _ _ (by omega)))).as (v' := .agg [.int .u8 (bn s 12 : Nat), .int .u8 (bn s 13 : Nat), .int .u8 (bn s 14 : Nat), .int .u8 (bn s 15 : Nat)].toArray) (by rw [bn_extract (by omega) (by omega), bn_extract (by omega) (by omega), bn_extract (by omega) (by omega), bn_extract (by omega) (by omega)])).opx r r) fun _ _=>?_
                          first | refine ps 10 r (opv_fieldAddr0 r) ?_ | refine ps 10 r (opv_fieldAddr r) ?_
                          refine pn 11 r (opx_store r r r (by simp [Value.oneCell'])) fun _ _=>?_
                          first | refine ps 12 r (opv_fieldAddr0 r) ?_ | refine ps 12 r (opv_fieldAddr r) ?_
                          refine pn 13 r (opx_store r r r (by simp [Value.oneCell'])) fun _ _=>dn ?_
                          exact K_cut () trivial ⟨rfl, rfl, rfl, rfl, trivial⟩ Ent.take
                    · refine ⟨_, _, _, _, _, rfl, rfl, (opx_s2b rfl rfl), fun y84 _ => ⟨⟨_, Take.eq (A := emp)⟩, .inr ⟨_, Take.eq (A := emp)⟩, ?_⟩⟩
                      refine ps 8 r (opv_s2a r (by rw [ext_size _ _ _ (by omega)]; decide)) ?_
                      refine R_all [2, 9] (by kernel_rfl) rfl fun i hi => ?_
                      simp only [List.mem_cons, List.not_mem_nil, or_false] at hi
                      rcases hi with rfl | rfl
                      · refine ⟨_, _, _, _, _, rfl, rfl, (opx_s2b rfl rfl), fun y79 _ => ⟨⟨_, Take.eq (A := emp)⟩, .inr ⟨_, Take.eq (A := emp)⟩, ?_⟩⟩
                        refine ps 3 r (opv_s2a r (by rw [ext_size _ _ _ (by omega)]; decide)) ?_
                        refine R_all [4, 9] (by kernel_rfl) rfl fun i hi => ?_
                        simp only [List.mem_cons, List.not_mem_nil, or_false] at hi
                        rcases hi with rfl | rfl
                        · refine ⟨_, _, _, _, _, rfl, rfl, (((opv_loadN (vs := [.int .u8 (bn (s.extract 12 (12 + 4)) 0 : Nat), .int .u8 (bn (s.extract 12 (12 + 4)) 1 : Nat), .int .u8 (bn (s.extract 12 (12 + 4)) 2 : Nat), .int .u8 (bn (s.extract 12 (12 + 4)) 3 : Nat)]) rfl rfl (Rd4 (c := y79.2) (e := 5) (T := (s.extract 12 (12 + 4))) (ext_size _ _ _ (by omega)))).as (v' := .agg [.int .u8 (bn s 12 : Nat), .int .u8 (bn s 13 : Nat), .int .u8 (bn s 14 : Nat), .int .u8 (bn s 15 : Nat)].toArray) (by rw [bn_extract (by omega) (by omega), bn_extract (by omega) (by omega), bn_extract (by omega) (by omega), bn_extract (by omega) (by omega)])).opx rfl rfl), fun _ _ => ⟨⟨_, Take.eq (A := emp)⟩, .inr ⟨_, Take.eq (A := emp)⟩, ?_⟩⟩
                          first | refine ps 10 r (opv_fieldAddr0 r) ?_ | refine ps 10 r (opv_fieldAddr r) ?_
                          refine R_all [9, 11] (by kernel_rfl) rfl fun i hi => ?_
                          simp only [List.mem_cons, List.not_mem_nil, or_false] at hi
                          rcases hi with rfl | rfl
                          · refine ⟨_, _, _, _, _, rfl, rfl, (((opv_loadN (vs := [.int .u8 (bn (s.extract 16 (16 + 4)) 0 : Nat), .int .u8 (bn (s.extract 16 (16 + 4)) 1 : Nat), .int .u8 (bn (s.extract 16 (16 + 4)) 2 : Nat), .int .u8 (bn (s.extract 16 (16 + 4)) 3 : Nat)]) rfl rfl (Rd4 (c := y84.2) (e := 5) (T := (s.extract 16 (16 + 4))) (ext_size _ _ _ (by omega)))).as (v' := .agg [.int .u8 (bn s 16 : Nat), .int .u8 (bn s 17 : Nat), .int .u8 (bn s 18 : Nat), .int .u8 (bn s 19 : Nat)].toArray) (by rw [bn_extract (by omega) (by omega), bn_extract (by omega) (by omega), bn_extract (by omega) (by omega), bn_extract (by omega) (by omega)])).opx rfl rfl), fun _ _ => ⟨⟨_, Take.eq (A := emp)⟩, .inr ⟨_, Take.eq (A := emp)⟩, ?_⟩⟩
                            refine pn 11 r (opx_store r r r (by simp [Value.oneCell'])) fun _ _=>?_
                            first | refine ps 12 r (opv_fieldAddr0 r) ?_ | refine ps 12 r (opv_fieldAddr r) ?_
                            refine pn 13 r (opx_store r r r (by simp [Value.oneCell'])) fun _ _=>dn ?_
                            exact K_cut () trivial ⟨rfl, rfl, rfl, rfl, trivial⟩ Ent.take
                          · refine ⟨_, _, _, _, _, rfl, rfl, (opx_store rfl rfl rfl (by simp [Value.oneCell'])), fun _ _ => ⟨⟨_, Take.eq (A := emp)⟩, .inr ⟨_, Take.eq (A := emp)⟩, ?_⟩⟩
                            refine pn 9 r (((opv_loadN (vs := [.int .u8 (bn (s.extract 16 (16 + 4)) 0 : Nat), .int .u8 (bn (s.extract 16 (16 + 4)) 1 : Nat), .int .u8 (bn (s.extract 16 (16 + 4)) 2 : Nat), .int .u8 (bn (s.extract 16 (16 + 4)) 3 : Nat)]) r r (Rd4 (c := y84.2) (e := 5) (T := (s.extract 16 (16 + 4))) (ext_size _ _ _ (by omega)))).as (v' := .agg [.int .u8 (bn s 16 : Nat), .int .u8 (bn s 17 : Nat), .int .u8 (bn s 18 : Nat), .int .u8 (bn s 19 : Nat)].toArray) (by rw [bn_extract (by omega) (by omega), bn_extract (by omega) (by omega), bn_extract (by omega) (by omega), bn_extract (by omega) (by omega)])).opx r r) fun _ _=>?_
                            first | refine ps 12 r (opv_fieldAddr0 r) ?_ | refine ps 12 r (opv_fieldAddr r) ?_
                            refine pn 13 r (opx_store r r r (by simp [Value.oneCell'])) fun _ _=>dn ?_
                            exact K_cut () trivial ⟨rfl, rfl, rfl, rfl, trivial⟩ Ent.take
                        · refine ⟨_, _, _, _, _, rfl, rfl, (((opv_loadN (vs := [.int .u8 (bn (s.extract 16 (16 + 4)) 0 : Nat), .int .u8 (bn (s.extract 16 (16 + 4)) 1 : Nat), .int .u8 (bn (s.extract 16 (16 + 4)) 2 : Nat), .int .u8 (bn (s.extract 16 (16 + 4)) 3 : Nat)]) rfl rfl (Rd4 (c := y84.2) (e := 5) (T := (s.extract 16 (16 + 4))) (ext_size _ _ _ (by omega)))).as (v' := .agg [.int .u8 (bn s 16 : Nat), .int .u8 (bn s 17 : Nat), .int .u8 (bn s 18 : Nat), .int .u8 (bn s 19 : Nat)].toArray) (by rw [bn_extract (by omega) (by omega), bn_extract (by omega) (by omega), bn_extract (by omega) (by omega), bn_extract (by omega) (by omega)])).opx rfl rfl), fun _ _ => ⟨⟨_, Take.eq (A := emp)⟩, .inr ⟨_, Take.eq (A := emp)⟩, ?_⟩⟩
                          refine pn 4 r (((opv_loadN (vs := [.int .u8 (bn (s.extract 12 (12 + 4)) 0 : Nat), .int .u8 (bn (s.extract 12 (12 + 4)) 1 : Nat), .int .u8 (bn (s.extract 12 (12 + 4)) 2 : Nat), .int .u8 (bn (s.extract 12 (12 + 4)) 3 : Nat)]) r r (Rd4 (c := y79.2) (e := 5) (T := (s.extract 12 (12 + 4))) (ext_size _ _ _ (by omega)))).as (v' := .agg [.int .u8 (bn s 12 : Nat), .int .u8 (bn s 13 : Nat), .int .u8 (bn s 14 : Nat), .int .u8 (bn s 15 : Nat)].toArray) (by rw [bn_extract (by omega) (by omega), bn_extract (by omega) (by omega), bn_extract (by omega) (by omega), bn_extract (by omega) (by omega)])).opx r r) fun _ _=>?_
                          first | refine ps 10 r (opv_fieldAddr0 r) ?_ | refine ps 10 r (opv_fieldAddr r) ?_
                          refine pn 11 r (opx_store r r r (by simp [Value.oneCell'])) fun _ _=>?_
                          first | refine ps 12 r (opv_fieldAddr0 r) ?_ | refine ps 12 r (opv_fieldAddr r) ?_
                          refine pn 13 r (opx_store r r r (by simp [Value.oneCell'])) fun _ _=>dn ?_
                          exact K_cut () trivial ⟨rfl, rfl, rfl, rfl, trivial⟩ Ent.take
                      · refine ⟨_, _, _, _, _, rfl, rfl, (((opv_loadN (vs := [.int .u8 (bn (s.extract 16 (16 + 4)) 0 : Nat), .int .u8 (bn (s.extract 16 (16 + 4)) 1 : Nat), .int .u8 (bn (s.extract 16 (16 + 4)) 2 : Nat), .int .u8 (bn (s.extract 16 (16 + 4)) 3 : Nat)]) rfl rfl (Rd4 (c := y84.2) (e := 5) (T := (s.extract 16 (16 + 4))) (ext_size _ _ _ (by omega)))).as (v' := .agg [.int .u8 (bn s 16 : Nat), .int .u8 (bn s 17 : Nat), .int .u8 (bn s 18 : Nat), .int .u8 (bn s 19 : Nat)].toArray) (by rw [bn_extract (by omega) (by omega), bn_extract (by omega) (by omega), bn_extract (by omega) (by omega), bn_extract (by omega) (by omega)])).opx rfl rfl), fun _ _ => ⟨⟨_, Take.eq (A := emp)⟩, .inr ⟨_, Take.eq (A := emp)⟩, ?_⟩⟩
                        refine pn 2 r (opx_s2b r r) fun y79 _=>ps 3 r (opv_s2a r (by rw [ext_size _ _ _ (by omega)]; decide))<|pn 4 r (((opv_loadN (vs := [.int .u8 (bn (s.extract 12 (12 + 4)) 0 : Nat), .int .u8 (bn (s.extract 12 (12 + 4)) 1 : Nat), .int .u8 (bn (s.extract 12 (12 + 4)) 2 : Nat), .int .u8 (bn (s.extract 12 (12 + 4)) 3 : Nat)]) r r (Rd4 (c := y79.2) (e := 5) (T := (s.extract 12 (12 + 4))) (ext_size _ _ _ (by omega)))).as (v' := .agg [.int .u8 (bn s 12 : Nat), .int .u8 (bn s 13 : Nat), .int .u8 (bn s 14 : Nat), .int .u8 (bn s 15 : Nat)].toArray) (by rw [bn_extract (by omega) (by omega), bn_extract (by omega) (by omega), bn_extract (by omega) (by omega), bn_extract (by omega) (by omega)])).opx r r) fun _ _=>?_
                        first | refine ps 10 r (opv_fieldAddr0 r) ?_ | refine ps 10 r (opv_fieldAddr r) ?_
                        refine pn 11 r (opx_store r r r (by simp [Value.oneCell'])) fun _ _=>?_
                        first | refine ps 12 r (opv_fieldAddr0 r) ?_ | refine ps 12 r (opv_fieldAddr r) ?_
                        refine pn 13 r (opx_store r r r (by simp [Value.oneCell'])) fun _ _=>dn ?_
                        exact K_cut () trivial ⟨rfl, rfl, rfl, rfl, trivial⟩ Ent.take
                · refine js<|sb r ?_
                  first | refine ll r ?_ | refine lv (opv_lenS r) r ?_
                  refine lv (opv_gtr r r) r<|nk ?_
                  refine J_cond rfl (fun h8 => ?_) (fun h8 => ?_)
                  · refine sr<|lv (opv_build r) r ?_
                    refine lx r (opx_store r r r (by simp [Value.oneCell'])) fun _ _=>an r<|jr<|kd ?_
                    have e : decP s = (pkz, 10) := by unfold decP; rw [if_neg (by omega), if_neg (by omega), if_neg (by omega), if_neg (by assumption), if_pos (by omega)]
                    exact K_ret2c rfl rfl rfl rfl () trivial (by rw [e]; rfl) Ent.take
                  · refine sk<|sb r<|lv ((opv_sliceS r r r (by omega)).as (v' := .string (s.extract 20 (word s 2))) (by rw [show Int.toNat 20 = 20 from rfl, Int.toNat_natCast])) r ?_
                    first | refine fz r ?_ | refine fy r ?_
                    refine lx r (opx_store r r r (by simp [Value.oneCell'])) fun _ _=>nr<|ls r ?_
                    refine lx r (opx_store r r r (by simp [Value.oneCell'])) fun _ _=>an r<|jr ?_
                    have e : decP s = (parseP s, 0) := by unfold decP; rw [if_neg (by omega), if_neg (by omega), if_neg (by omega), if_neg (by assumption), if_neg (by omega)]
                    exact K_ret2c rfl rfl rfl rfl () trivial (by rw [e]; rfl) Ent.take
            · refine L_gf_off h6 rfl rfl ?_ (fun _ h => by cases h; rfl)
              refine lv (opv_pick_t r h6 r) r<|nt r<|sr<|lv (opv_build r) r ?_
              refine lx r (opx_store r r r (by simp [Value.oneCell'])) fun _ _=>an r<|jr<|kd ?_
              have e : decP s = (pkz, 12) := by unfold decP; rw [if_neg (by omega), if_neg (by omega), if_neg (by omega), if_pos (by first | assumption | exact fun e => absurd (sealed_zero (by omega) (by omega) e) (by assumption))]
              exact K_ret2c rfl rfl rfl rfl () trivial (by rw [e]; rfl) Ent.take
        · refine L_gf_off h4 rfl rfl ?_ (fun _ h => by cases h; rfl)
          refine L_gf_off h4 rfl rfl ?_ (fun _ h => by cases h; rfl)
          refine L_gf_off h4 rfl rfl ?_ (fun _ h => by cases h; rfl)
          refine L_gf_off h4 rfl rfl ?_ (fun _ h => by cases h; rfl)
          refine lv (opv_pick_t r h4 r) r<|ea r ?_
          refine L_gskip rfl rfl rfl ?_ (fun _ h => by cases h; rfl)
          refine L_gskip rfl rfl rfl ?_ (fun _ h => by cases h; rfl)
          refine L_gskip rfl rfl rfl ?_ (fun _ h => by cases h; rfl)
          refine L_gskip rfl rfl rfl ?_ (fun _ h => by cases h; rfl)
          first | refine ea r ?_ | refine lv (opv_pick r r r) r ?_
          refine nt r<|sr<|lv (opv_build r) r ?_
          refine lx r (opx_store r r r (by simp [Value.oneCell'])) fun _ _=>an r<|jr<|kd ?_
          have e : decP s = (pkz, 15) := by unfold decP; rw [if_neg (by omega), if_neg (by omega), if_pos (by omega)]
          exact K_ret2c rfl rfl rfl rfl () trivial (by rw [e]; rfl) Ent.take
      · refine L_gf_off h3 rfl rfl ?_ (fun _ h => by cases h; rfl)
        refine lv (opv_pick_t r h3 r) r<|ea r ?_
        refine L_gskip rfl rfl rfl ?_ (fun _ h => by cases h; rfl)
        refine L_gskip rfl rfl rfl ?_ (fun _ h => by cases h; rfl)
        refine L_gskip rfl rfl rfl ?_ (fun _ h => by cases h; rfl)
        refine L_gskip rfl rfl rfl ?_ (fun _ h => by cases h; rfl)
        refine L_gskip rfl rfl rfl ?_ (fun _ h => by cases h; rfl)
        first | refine ea r ?_ | refine lv (opv_pick r r r) r ?_
        refine ea r ?_
        refine L_gskip rfl rfl rfl ?_ (fun _ h => by cases h; rfl)
        refine L_gskip rfl rfl rfl ?_ (fun _ h => by cases h; rfl)
        refine L_gskip rfl rfl rfl ?_ (fun _ h => by cases h; rfl)
        refine L_gskip rfl rfl rfl ?_ (fun _ h => by cases h; rfl)
        first | refine ea r ?_ | refine lv (opv_pick r r r) r ?_
        refine nt r<|sr<|lv (opv_build r) r ?_
        refine lx r (opx_store r r r (by simp [Value.oneCell'])) fun _ _=>an r<|jr<|kd ?_
        have e : decP s = (pkz, 15) := by unfold decP; rw [if_neg (by omega), if_neg (by omega), if_pos (by omega)]
        exact K_ret2c rfl rfl rfl rfl () trivial (by rw [e]; rfl) Ent.take
end Go.Proofs.YtpkcniedaabpoaaGreat
namespace Go.Proofs.YtpkcniedaabpoaaGreat
open Go.SLA
set_option maxRecDepth 100000
attribute [local irreducible] J L K QL Rg FSpec OpV OpX Rd Back
theorem wfk (n : Int) (h : 0 ≤ n ∧ n ≤ 9000000000000000000) : (Lit.int .i64 n).wf = true := by
  have : -9223372036854775808 ≤ n ∧ n ≤ 9223372036854775807 := by omega
  simpa [Lit.wf, IntKind.min, IntKind.max, IntKind.signed, IntKind.bits] using this
theorem pkt_app (p : Pk) : pkt p = hA p (20 + p.data.size) ++ (be (ones (h20 p (20 + p.data.size) 0)) 2 ++ (hB p ++ p.data)) := by
  unfold pkt h20
  simp only [ByteArray.append_assoc]
theorem pkt_def (p : Pk) : h20 p (20 + p.data.size) (ones (h20 p (20 + p.data.size) 0)) ++ p.data = pkt p := by unfold pkt; rfl
theorem bn_bytesL {l : List Int} {j : Nat} {v : Int} (h : l[j]? = some v) (hv : 0 ≤ v ∧ v < 256) : bn (bytesL l) j = v.toNat := by
  show ((l.map fun v => UInt8.ofNat v.toNat).toArray.toList.getD j 0).toNat = _
  rw [List.toList_toArray, List.getD_eq_getElem?_getD, List.getElem?_map, h]
  show (UInt8.ofNat v.toNat).toNat = _
  rw [UInt8.toNat_ofNat', Nat.mod_eq_of_lt (by omega)]
theorem hA_bytes (p : Pk) (n : Nat) : hA p n = bytesL [((69 / 256 ^ 0 % 256 : Nat) : Int), ((0 / 256 ^ 0 % 256 : Nat) : Int), ((n / 256 ^ 1 % 256 : Nat) : Int), ((n / 256 ^ 0 % 256 : Nat) : Int), ((p.id.toNat / 256 ^ 1 % 256 : Nat) : Int), ((p.id.toNat / 256 ^ 0 % 256 : Nat) : Int), ((partN p / 256 ^ 1 % 256 : Nat) : Int), ((partN p / 256 ^ 0 % 256 : Nat) : Int), ((p.ttl.toNat / 256 ^ 0 % 256 : Nat) : Int), ((p.proto.toNat / 256 ^ 0 % 256 : Nat) : Int)] := rfl
theorem hB_bytes (p : Pk) : hB p = bytesL [p.s0, p.s1, p.s2, p.s3, p.d0, p.d1, p.d2, p.d3] := rfl
theorem lit00 : (⟨#[0, 0]⟩ : ByteArray) = be 0 2 := rfl
theorem wfk8 {n : Nat} (h : n < 256) : (Lit.int .u8 (n : Int)).wf = true := by
  have : 0 ≤ (n : Int) ∧ (n : Int) ≤ 255 := by omega
  simpa [Lit.wf, IntKind.min, IntKind.max, IntKind.signed, IntKind.bits] using this
theorem hA_bn (p : Pk) (n : Nat) : bn (hA p n) 0 = 69 ∧ bn (hA p n) 1 = 0 ∧ bn (hA p n) 2 = n / 256 % 256 ∧ bn (hA p n) 3 = n % 256 ∧ bn (hA p n) 4 = p.id.toNat / 256 % 256 ∧ bn (hA p n) 5 = p.id.toNat % 256 ∧ bn (hA p n) 6 = partN p / 256 % 256 ∧ bn (hA p n) 7 = partN p % 256 ∧ bn (hA p n) 8 = p.ttl.toNat % 256 ∧ bn (hA p n) 9 = p.proto.toNat % 256 := by
  have key : ∀ (i m c : Nat), [((69 / 256 ^ 0 % 256 : Nat) : Int), ((0 / 256 ^ 0 % 256 : Nat) : Int), ((n / 256 ^ 1 % 256 : Nat) : Int), ((n / 256 ^ 0 % 256 : Nat) : Int), ((p.id.toNat / 256 ^ 1 % 256 : Nat) : Int), ((p.id.toNat / 256 ^ 0 % 256 : Nat) : Int), ((partN p / 256 ^ 1 % 256 : Nat) : Int), ((partN p / 256 ^ 0 % 256 : Nat) : Int), ((p.ttl.toNat / 256 ^ 0 % 256 : Nat) : Int), ((p.proto.toNat / 256 ^ 0 % 256 : Nat) : Int)][i]? = some ((m / 256 ^ c % 256 : Nat) : Int) → bn (hA p n) i = m / 256 ^ c % 256 := fun i m c h => by
    rw [hA_bytes, bn_bytesL h (by have := Nat.mod_lt (m / 256 ^ c) (show 0 < 256 by decide); omega), Int.toNat_natCast]
  have k1 := fun m => show m / 256 ^ 0 % 256 = m % 256 by rw [Nat.pow_zero, Nat.div_one]
  have k2 := fun m => show m / 256 ^ 1 % 256 = m / 256 % 256 by rw [Nat.pow_one]
  refine ⟨(key 0 69 0 rfl).trans (k1 _), (key 1 0 0 rfl).trans (k1 _), (key 2 _ 1 rfl).trans (k2 _), (key 3 _ 0 rfl).trans (k1 _), (key 4 _ 1 rfl).trans (k2 _), (key 5 _ 0 rfl).trans (k1 _), (key 6 _ 1 rfl).trans (k2 _), (key 7 _ 0 rfl).trans (k1 _), (key 8 _ 0 rfl).trans (k1 _), (key 9 _ 0 rfl).trans (k1 _)⟩
theorem hB_bn {p : Pk} (hp : okPk p) : ((bn (hB p) 0 : Nat) : Int) = p.s0 ∧ ((bn (hB p) 1 : Nat) : Int) = p.s1 ∧ ((bn (hB p) 2 : Nat) : Int) = p.s2 ∧ ((bn (hB p) 3 : Nat) : Int) = p.s3 ∧ ((bn (hB p) 4 : Nat) : Int) = p.d0 ∧ ((bn (hB p) 5 : Nat) : Int) = p.d1 ∧ ((bn (hB p) 6 : Nat) : Int) = p.d2 ∧ ((bn (hB p) 7 : Nat) : Int) = p.d3 := by
  have key : ∀ (i : Nat) (v : Int), [p.s0, p.s1, p.s2, p.s3, p.d0, p.d1, p.d2, p.d3][i]? = some v → 0 ≤ v ∧ v < 256 → ((bn (hB p) i : Nat) : Int) = v := fun i v h hv => by rw [hB_bytes, bn_bytesL h hv]; omega
  have hsrc := hp.src
  have hdst := hp.dst
  refine ⟨key 0 _ rfl (hsrc _ ?_), key 1 _ rfl (hsrc _ ?_), key 2 _ rfl (hsrc _ ?_), key 3 _ rfl (hsrc _ ?_), key 4 _ rfl (hdst _ ?_), key 5 _ rfl (hdst _ ?_), key 6 _ rfl (hdst _ ?_), key 7 _ rfl (hdst _ ?_)⟩ <;> first | (unfold Pk.src; simp) | (unfold Pk.dst; simp)
theorem word_of {s : ByteArray} {i n : Nat} (h : n < 65536) (h0 : bn s i = n / 256 % 256) (h1 : bn s (i + 1) = n % 256) : word s i = n := by
  have := word_nat s i
  omega
section
attribute [local irreducible] be ones word zeroed pkt hA hB bytesL bn
/-- What was encoded is decoded, whatever is behind it. -/
theorem decP_pkt {p : Pk} (hp : okPk p) (h : fieldsB p) (hd : p.data.size ≤ 65515) (rest : ByteArray) : decP (pkt p ++ rest) = (p, 0) := by
  have hz := pkt_size p
  have hsz : (pkt p ++ rest).size = 20 + p.data.size + rest.size := by rw [ByteArray.size_append, hz]
  have hza := hA_size p (20 + p.data.size)
  have hzb := hB_size p
  have hsrc := hp.src
  have hdst := hp.dst
  unfold fieldsB at h
  have hpart : partN p ≤ 16383 ∧ partN p % 8192 = p.off.toNat ∧ (partN p / 8192 % 2 = 1 ↔ p.more = true) := by
    unfold partN
    cases hm : p.more with
    | true => rw [if_pos rfl]; refine ⟨by omega, by omega, fun _ => rfl, fun _ => by omega⟩
    | false => rw [if_neg (by decide)]; refine ⟨by omega, by omega, fun n => by omega, fun n => by cases n⟩
  have bA : ∀ i, i < 10 → bn (pkt p ++ rest) i = bn (hA p (20 + p.data.size)) i := fun i hi => by rw [bn_app_l (by omega), pkt_app, bn_app_l (by omega)]
  have hA' := hA_bn p (20 + p.data.size)
  have bB : ∀ i, i < 8 → bn (pkt p ++ rest) (12 + i) = bn (hB p) i := fun i hi => by
    rw [bn_app_l (by omega), pkt_app, bn_app_r (by omega), hza, bn_app_r (by rw [be_size]; omega), be_size, bn_app_l (by omega), show 12 + i - 10 - 2 = i by omega]
  have hB' := hB_bn hp
  have w10 : word (pkt p ++ rest) 10 = ones (h20 p (20 + p.data.size) 0) := by
    rw [word_app_l (by omega), pkt_app, word_app_r (by omega), hza, word_app_l (by rw [be_size]; decide)]
    exact word_be (ones_le _)
  have eA : (pkt p ++ rest).extract 0 10 = hA p (20 + p.data.size) := by
    rw [pkt_app, ByteArray.append_assoc]
    exact ByteArray.extract_append_eq_left (by rw [hza])
  have eB : (pkt p ++ rest).extract 12 20 = hB p := by
    refine bn_ext (by rw [ext_size _ _ _ (by omega), hzb]) fun i hi => ?_
    rw [ext_size _ _ _ (by omega)] at hi
    rw [bn_extract (by omega) (by omega), bB i (by omega)]
  have hzr : zeroed (pkt p ++ rest) = h20 p (20 + p.data.size) 0 := by
    unfold zeroed h20
    rw [eA, eB, lit00]
  have eD : (pkt p ++ rest).extract 20 (20 + p.data.size) = p.data := by
    refine bn_ext (by rw [ext_size _ _ _ (by omega)]; omega) fun i hi => ?_
    rw [ext_size _ _ _ (by omega)] at hi
    rw [bn_extract (by omega) (by omega), bn_app_l (by omega), ← pkt_def, bn_app_r (by rw [h20_size]; omega), h20_size, show 20 + i - 20 = i by omega]
  obtain ⟨a0, a1, a2, a3, a4, a5, a6, a7, a8, a9⟩ := hA'
  obtain ⟨c0, c1, c2, c3, c4, c5, c6, c7⟩ := hB'
  rw [← bA _ (by decide)] at a0 a1 a2 a3 a4 a5 a6 a7 a8 a9
  rw [← bB _ (by decide)] at c0 c1 c2 c3 c4 c5 c6 c7
  clear bA bB eA eB hza hzb hz
  have hw2 : word (pkt p ++ rest) 2 = 20 + p.data.size := word_of (by omega) a2 a3
  have hw4 : word (pkt p ++ rest) 4 = p.id.toNat := word_of (by omega) a4 a5
  have hw6 : word (pkt p ++ rest) 6 = partN p := word_of (by omega) a6 a7
  clear a2 a3 a4 a5 a6 a7
  have hparse : parseP (pkt p ++ rest) = p := by
    have e4 : ((p.id.toNat : Nat) : Int) = p.id := Int.toNat_of_nonneg (by omega)
    have e8 : ((p.ttl.toNat % 256 : Nat) : Int) = p.ttl := by clear a0 a1 a8 a9 c0 c1 c2 c3 c4 c5 c6 c7 hw2 hw4 hw6 w10 hzr eD; omega
    have e9 : ((p.proto.toNat % 256 : Nat) : Int) = p.proto := by clear a0 a1 a8 a9 c0 c1 c2 c3 c4 c5 c6 c7 hw2 hw4 hw6 w10 hzr eD; omega
    have em : decide (partN p / 8192 % 2 = 1) = p.more := by
      cases hm : p.more with
      | true => exact decide_eq_true (hpart.2.2.2 hm)
      | false => exact decide_eq_false fun n => by rw [hpart.2.2.1 n] at hm; cases hm
    have eo : ((partN p % 8192 : Nat) : Int) = p.off := by rw [hpart.2.1]; exact Int.toNat_of_nonneg (by omega)
    unfold parseP
    rw [hw2, hw4, hw6, eD, a8, a9, e4, e8, e9, em, eo, c0, c1, c2, c3, c4, c5, c6, c7]
  unfold decP
  rw [if_neg (by omega), if_neg (by omega), if_neg (by omega), if_neg (by rw [w10, hzr]; exact fun n => n rfl), if_neg (by omega), hparse]
end
attribute [local irreducible] decP
theorem D_back (p : Pk) (rest : ByteArray) (hp : okPk p) (h : fieldsB p) (hd : p.data.size ≤ 65515) (hr : rest.size ≤ 10000) : FSpec Tryz.prog 14 #[.string (pkt p ++ rest)] emp (fun _ : Unit => True) (fun _ => .tuple #[.agg [.int .i64 p.id, .bool p.more, .int .i64 p.off, .int .i64 p.ttl, .int .i64 p.proto, .int .u8 p.s0, .int .u8 p.s1, .int .u8 p.s2, .int .u8 p.s3, .int .u8 p.d0, .int .u8 p.d1, .int .u8 p.d2, .int .u8 p.d3, .string p.data].toArray, .int .i64 0]) (fun _ => emp) := by
  have := Ip4Decode_spec (pkt p ++ rest) (by rw [ByteArray.size_append, pkt_size]; omega)
  rw [decP_pkt hp h hd rest] at this
  exact this
set_option maxRecDepth 100000
set_option maxRecDepth 100000
end Go.Proofs.YtpkcniedaabpoaaGreat
namespace Go.Proofs.YtpkcniedaabpoaaGreat
open Go.SLA
set_option maxRecDepth 100000
attribute [local irreducible] J L K QL Rg FSpec OpV OpX Rd Back
structure Ky where
  s0 : Int
  s1 : Int
  s2 : Int
  s3 : Int
  d0 : Int
  d1 : Int
  d2 : Int
  d3 : Int
  proto : Int
  id : Int
def encKy (x : Ky) : List Value := [.int .u8 x.s0, .int .u8 x.s1, .int .u8 x.s2, .int .u8 x.s3, .int .u8 x.d0, .int .u8 x.d1, .int .u8 x.d2, .int .u8 x.d3, .int .i64 x.proto, .int .i64 x.id]
abbrev ksKy : List CK := [.int .u8, .int .u8, .int .u8, .int .u8, .int .u8, .int .u8, .int .u8, .int .u8, .int .i64, .int .i64]
theorem encKy_len (x : Ky) : (encKy x).length = 10 := rfl
instance : MapP Tryz.prog 93 122 := ⟨by kernel_rfl⟩
instance : DecidableEq Ky := fun a b =>
  if h : a.s0 = b.s0 ∧ a.s1 = b.s1 ∧ a.s2 = b.s2 ∧ a.s3 = b.s3 ∧ a.d0 = b.d0 ∧ a.d1 = b.d1 ∧ a.d2 = b.d2 ∧ a.d3 = b.d3 ∧ a.proto = b.proto ∧ a.id = b.id then isTrue (by cases a; cases b; simp_all) else isFalse (by rintro rfl; simp at h)
theorem encKy_inj {a b : Ky} : encKy a = encKy b ↔ a = b := by
  constructor
  · intro h
    cases a; cases b
    simp only [encKy, List.cons.injEq, Value.int.injEq, true_and, and_true] at h
    simp [h]
  · rintro rfl; rfl
theorem encKy_one (x : Ky) : ∀ u ∈ encKy x, u.oneCell' = true := by
  intro u hu
  simp only [encKy, List.mem_cons, List.not_mem_nil, or_false] at hu
  rcases hu with rfl | rfl | rfl | rfl | rfl | rfl | rfl | rfl | rfl | rfl <;> rfl
theorem shKy (x : Ky) : Shape ksKy (encKy x) := by simp [ksKy, encKy, Shape, CK.sh]
/-- Whose part a packet is. -/
def kyOf (p : Pk) : Ky := ⟨p.s0, p.s1, p.s2, p.s3, p.d0, p.d1, p.d2, p.d3, p.proto, p.id⟩
abbrev flatK (L : List Ky) : List Value := L.flatMap encKy
theorem flatK_len (L : List Ky) : (flatK L).length = L.length * 10 := flat_len encKy_len L
/-- Keys without one. -/
def wo (L : List Ky) (k : Ky) : List Ky := L.filter fun x => !decide (x = k)
theorem wo_app (L M : List Ky) (k : Ky) : wo (L ++ M) k = wo L k ++ wo M k := List.filter_append ..
theorem wo_one_ne {x k : Ky} (h : ¬ x = k) : wo [x] k = [x] := by unfold wo; simp [h]
theorem wo_one_eq {x k : Ky} (h : x = k) : wo [x] k = [] := by unfold wo; simp [h]
theorem wo_none {L : List Ky} {k : Ky} (h : ∀ x ∈ L, x ≠ k) : wo L k = L := by
  unfold wo
  rw [List.filter_eq_self]
  intro x hx
  simp [h x hx]
/-- The first place of a key. -/
def fix (L : List Ky) (k : Ky) : Nat := L.findIdx fun x => decide (x = k)
theorem klt {α : Type} {L : List α} {j : Nat} {x : α} (h : L[j]? = some x) : j < L.length := by
  rcases Nat.lt_or_ge j L.length with h' | h'
  · exact h'
  · rw [List.getElem?_eq_none h'] at h; cases h
theorem fix_here {L : List Ky} {k x : Ky} {j : Nat} (hj : j ≤ fix L k) (hx : L[j]? = some x) (h : x = k) : fix L k = j := by
  have hl := klt hx
  rw [List.getElem?_eq_getElem hl] at hx
  simp only [Option.some.injEq] at hx
  rcases Nat.lt_or_ge j (fix L k) with h' | h'
  · have := List.not_of_lt_findIdx h'
    rw [hx] at this
    simp [h] at this
  · omega
theorem fix_next {L : List Ky} {k x : Ky} {j : Nat} (hj : j ≤ fix L k) (hx : L[j]? = some x) (h : ¬ x = k) : j + 1 ≤ fix L k := by
  have hl := klt hx
  rw [List.getElem?_eq_getElem hl] at hx
  simp only [Option.some.injEq] at hx
  rcases Nat.lt_or_ge j (fix L k) with h' | h'
  · omega
  · have e : fix L k = j := by omega
    have hlt : L.findIdx (fun x => decide (x = k)) < L.length := by show fix L k < _; omega
    have := List.findIdx_getElem (w := hlt)
    have e2 : L[L.findIdx (fun x => decide (x = k))] = x := by rw [← hx]; congr 1
    rw [e2] at this
    simp at this
    exact absurd this h
theorem fix_le (L : List Ky) (k : Ky) : fix L k ≤ L.length := List.findIdx_le_length
theorem fix_at {L : List Ky} {k : Ky} (h : fix L k < L.length) : L[fix L k]? = some k ∧ wo (L.take (fix L k)) k = L.take (fix L k) := by
  have hlt : L.findIdx (fun x => decide (x = k)) < L.length := h
  have := List.findIdx_getElem (w := hlt)
  simp only [decide_eq_true_eq] at this
  refine ⟨?_, wo_none fun x hx hxk => ?_⟩
  · rw [List.getElem?_eq_getElem h]; exact congrArg some this
  · obtain ⟨j, hj⟩ := List.getElem?_of_mem hx
    have hjl := klt hj
    rw [List.length_take] at hjl
    have hj2 : j < fix L k := by omega
    rw [List.getElem?_take_of_lt hj2] at hj
    have := fix_here (by omega) hj hxk
    omega
theorem fix_no {L : List Ky} {k : Ky} (h : ¬ fix L k < L.length) : wo L k = L := wo_none fun x hx hxk => by
  obtain ⟨j, hj⟩ := List.getElem?_of_mem hx
  have hjl := klt hj
  have := fix_here (by omega) hj hxk
  omega
theorem tk_snoc {α : Type} {q : List α} {k : Nat} {x : α} (hx : q[k]? = some x) : q.take (k + 1) = q.take k ++ [x] := by
  have hk := klt hx
  rw [List.getElem?_eq_getElem hk] at hx
  simp only [Option.some.injEq] at hx
  rw [List.take_succ_eq_append_getElem hk, hx]
theorem flatK_set {M : List Ky} {i : Nat} {x : Ky} (pre post : List Value) (hi : i < M.length) : pre ++ flatK (M.set i x) ++ post = (pre ++ flatK M ++ post).take (pre.length + i * 10) ++ encKy x ++ (pre ++ flatK M ++ post).drop (pre.length + i * 10 + (encKy x).length) := by
  have h1 : M = M.take i ++ ([M[i]] ++ M.drop (i + 1)) := by rw [List.singleton_append, ← List.drop_eq_getElem_cons hi, List.take_append_drop]
  have h2 : M.set i x = M.take i ++ ([x] ++ M.drop (i + 1)) := by rw [List.set_eq_take_append_cons_drop, if_pos hi]; rfl
  have l1 : (flatK (M.take i)).length = i * 10 := by rw [flatK_len, List.length_take]; congr 1; omega
  have e1 : flatK M = flatK (M.take i) ++ (encKy M[i] ++ flatK (M.drop (i + 1))) := by
    refine (congrArg flatK h1).trans ?_
    unfold flatK
    rw [List.flatMap_append, List.flatMap_append]
    simp only [List.flatMap_cons, List.flatMap_nil, List.append_nil]
  have e2 : flatK (M.set i x) = flatK (M.take i) ++ (encKy x ++ flatK (M.drop (i + 1))) := by rw [h2]; simp [flatK]
  have a1 : (pre ++ flatK M ++ post).take (pre.length + i * 10) = pre ++ flatK (M.take i) := by
    rw [e1, show pre ++ (flatK (M.take i) ++ (encKy M[i] ++ flatK (M.drop (i + 1)))) ++ post = (pre ++ flatK (M.take i)) ++ ((encKy M[i] ++ flatK (M.drop (i + 1))) ++ post) by simp]
    exact List.take_left' (by rw [List.length_append, l1])
  have a2 : (pre ++ flatK M ++ post).drop (pre.length + i * 10 + (encKy x).length) = flatK (M.drop (i + 1)) ++ post := by
    rw [e1, show pre ++ (flatK (M.take i) ++ (encKy M[i] ++ flatK (M.drop (i + 1)))) ++ post = (pre ++ flatK (M.take i) ++ encKy M[i]) ++ (flatK (M.drop (i + 1)) ++ post) by simp]
    exact List.drop_left' (by simp only [List.length_append, l1]; rfl)
  rw [a1, a2, e2]
  simp
theorem key_spec (p : Pk) : FSpec Tryz.prog 51 #[.agg [.int .i64 p.id, .bool p.more, .int .i64 p.off, .int .i64 p.ttl, .int .i64 p.proto, .int .u8 p.s0, .int .u8 p.s1, .int .u8 p.s2, .int .u8 p.s3, .int .u8 p.d0, .int .u8 p.d1, .int .u8 p.d2, .int .u8 p.d3, .string p.data].toArray] (emp) (fun _ : Unit => True) (fun _ => .agg (encKy (kyOf p)).toArray) (fun _ => emp) := by
  refine en Tryz.func51 r fun σ F=>J_emp<|sr<|lx r (opx_box (l := [.int .i64 p.id, .bool p.more, .int .i64 p.off, .int .i64 p.ttl, .int .i64 p.proto, .int .u8 p.s0, .int .u8 p.s1, .int .u8 p.s2, .int .u8 p.s3, .int .u8 p.d0, .int .u8 p.d1, .int .u8 p.d2, .int .u8 p.d3, .string p.data]) r r) fun b1 _=>al r fun b2=>nr ?_
  first | refine fz r ?_ | refine fy r ?_
  refine ls r ?_
  first | refine fz r ?_ | refine fy r ?_
  refine ls r ?_
  first | refine fz r ?_ | refine fy r ?_
  refine ld r r ?_
  first | refine fz r ?_ | refine fy r ?_
  refine ld r r<|lv (opv_build r) r ?_
  refine lx r (opx_store r r r (by simp [Value.oneCell'])) fun _ _=>nk<|jr ?_
  exact K_ret1c (Q := fun _ _ _ => True) rfl rfl rfl () trivial rfl Ent.take
/-- What is wrong with a part behind so many bytes. -/
def sndC (p : Pk) (a : Nat) : Int := if a % 8 ≠ 0 ∨ p.off ≠ ((a / 8 : Nat) : Int) then 25 else if p.more = true ∧ (p.data.size = 0 ∨ p.data.size % 8 ≠ 0) then 15 else if 8200 < a + p.data.size then 11 else 0
theorem bytes0 {s : ByteArray} : s = ⟨#[]⟩ ↔ s.size = 0 := ⟨fun h => by rw [h]; rfl, fun h => size_zero h⟩
theorem sound_spec (p : Pk) (a : Nat) (ha : a ≤ 1000000) (hd : p.data.size ≤ 140737488355327) : FSpec Tryz.prog 52 #[.agg [.int .i64 p.id, .bool p.more, .int .i64 p.off, .int .i64 p.ttl, .int .i64 p.proto, .int .u8 p.s0, .int .u8 p.s1, .int .u8 p.s2, .int .u8 p.s3, .int .u8 p.d0, .int .u8 p.d1, .int .u8 p.d2, .int .u8 p.d3, .string p.data].toArray, .int .i64 a] (emp) (fun _ : Unit => True) (fun _ => .int .i64 (sndC p a)) (fun _ => emp) := by
  refine en Tryz.func52 r fun σ F=>J_emp<|sr<|lx r (opx_box (l := [.int .i64 p.id, .bool p.more, .int .i64 p.off, .int .i64 p.ttl, .int .i64 p.proto, .int .u8 p.s0, .int .u8 p.s1, .int .u8 p.s2, .int .u8 p.s3, .int .u8 p.d0, .int .u8 p.d1, .int .u8 p.d2, .int .u8 p.d3, .string p.data]) r r) fun b2 _=>an r<|js<|jb<|sa r<|lv ((opv_remP r r (by omega)).as (v' := .int .i64 ((a % 8 : Nat) : Int)) r) r ?_
  first | refine lv (opv_neq r r) r ?_ | refine lv (opv_neqS r r) r ?_ | refine lv (opv_neqNil r r) r ?_ | refine lv (opv_neqB r r) r ?_
  refine ea r ?_
  refine L_gf rfl rfl (fun h1 => ?_) (fun h1 => ?_) (fun _ h => by cases h; rfl)
  · first | refine fz r ?_ | refine fy r ?_
    refine L_gf_on h1 r r<|ld r r<|L_gf_on h1 r r<|ea r<|L_gf_on h1 r r<|lv ((opv_quoP r r (by omega)).as (v' := .int .i64 ((a / 8 : Nat) : Int)) r) r<|L_gf_on h1 r r ?_
    first | refine lv (opv_neq r r) r ?_ | refine lv (opv_neqS r r) r ?_ | refine lv (opv_neqNil r r) r ?_ | refine lv (opv_neqB r r) r ?_
    refine lv (opv_pick_f r h1 r) r<|an r ?_
    refine J_cond rfl (fun h2 => ?_) (fun h2 => ?_)
    · refine san r<|jr<|kq<|kd ?_
      exact K_ret1 rfl rfl () trivial (congrArg (Value.int .i64) (by unfold sndC; first | rw [if_pos (by omega)] | rw [if_neg (by omega), if_pos ⟨by assumption, by omega⟩] | rw [if_neg (by omega), if_neg (by rintro ⟨g1, g2⟩; first | contradiction | omega), if_pos (by omega)] | rw [if_neg (by omega), if_neg (by rintro ⟨g1, g2⟩; first | contradiction | omega), if_neg (by omega)])) Ent.take
    · refine sr ?_
      first | refine fz r ?_ | refine fy r ?_
      refine lv ((opv_load r (Rd.look r)).as (v' := .bool (decide (p.more = true))) (by simp)) r<|ea r ?_
      refine L_gt rfl rfl (fun h3 => ?_) (fun h3 => ?_) (fun _ h => by cases h; rfl)
      · first | refine fz r ?_ | refine fy r ?_
        refine L_gt_on h3 r r<|ld r r<|L_gt_on h3 r r<|lv ((opv_eqlS r r).as (v' := .bool (decide (p.data.size = 0))) (congrArg Value.bool (decide_eq_decide.2 bytes0))) r<|L_gt_on h3 r r<|ea r ?_
        refine L_gf rfl rfl (fun h4 => ?_) (fun h4 => ?_) (fun _ h => by cases h; rfl)
        · first | refine fz r ?_ | refine fy r ?_
          refine L_gf_on h4 r r<|ld r r<|L_gf_on h4 r r ?_
          first | refine ll r ?_ | refine lv (opv_lenS r) r ?_
          refine L_gf_on h4 r r<|lv ((opv_remP r r (by omega)).as (v' := .int .i64 ((p.data.size % 8 : Nat) : Int)) r) r<|L_gf_on h4 r r ?_
          first | refine lv (opv_neq r r) r ?_ | refine lv (opv_neqS r r) r ?_ | refine lv (opv_neqNil r r) r ?_ | refine lv (opv_neqB r r) r ?_
          refine L_gt_on h3 r r<|lv (opv_pick_f r h4 r) r<|lv (opv_pick_t r h3 r) r<|an r ?_
          refine J_cond rfl (fun h5 => ?_) (fun h5 => ?_)
          · refine san r<|jr<|kq<|kd ?_
            exact K_ret1 rfl rfl () trivial (congrArg (Value.int .i64) (by unfold sndC; first | rw [if_pos (by omega)] | rw [if_neg (by omega), if_pos ⟨by assumption, by omega⟩] | rw [if_neg (by omega), if_neg (by rintro ⟨g1, g2⟩; first | contradiction | omega), if_pos (by omega)] | rw [if_neg (by omega), if_neg (by rintro ⟨g1, g2⟩; first | contradiction | omega), if_neg (by omega)])) Ent.take
          · refine sa r ?_
            first | refine fz r ?_ | refine fy r ?_
            refine ld r r ?_
            first | refine ll r ?_ | refine lv (opv_lenS r) r ?_
            first | refine lv (opv_add64 r r (by omega)) r ?_ | refine lv (opv_addS r r (by omega)) r ?_ | refine lv (opv_add r r) r ?_
            refine lv (opv_gtr r r) r<|an r ?_
            refine J_cond rfl (fun h6 => ?_) (fun h6 => ?_)
            · refine san r<|jr<|kq<|kd ?_
              exact K_ret1 rfl rfl () trivial (congrArg (Value.int .i64) (by unfold sndC; first | rw [if_pos (by omega)] | rw [if_neg (by omega), if_pos ⟨by assumption, by omega⟩] | rw [if_neg (by omega), if_neg (by rintro ⟨g1, g2⟩; first | contradiction | omega), if_pos (by omega)] | rw [if_neg (by omega), if_neg (by rintro ⟨g1, g2⟩; first | contradiction | omega), if_neg (by omega)])) Ent.take
            · refine skb<|san r<|jr ?_
              exact K_ret1 rfl rfl () trivial (congrArg (Value.int .i64) (by unfold sndC; first | rw [if_pos (by omega)] | rw [if_neg (by omega), if_pos ⟨by assumption, by omega⟩] | rw [if_neg (by omega), if_neg (by rintro ⟨g1, g2⟩; first | contradiction | omega), if_pos (by omega)] | rw [if_neg (by omega), if_neg (by rintro ⟨g1, g2⟩; first | contradiction | omega), if_neg (by omega)])) Ent.take
        · refine L_gf_off h4 rfl rfl ?_ (fun _ h => by cases h; rfl)
          refine L_gf_off h4 rfl rfl ?_ (fun _ h => by cases h; rfl)
          refine L_gf_off h4 rfl rfl ?_ (fun _ h => by cases h; rfl)
          refine L_gf_off h4 rfl rfl ?_ (fun _ h => by cases h; rfl)
          refine L_gt_on h3 r r<|lv (opv_pick_t r h4 r) r<|lv (opv_pick_t r h3 r) r<|an r<|ct r<|san r<|jr<|kq<|kd ?_
          exact K_ret1 rfl rfl () trivial (congrArg (Value.int .i64) (by unfold sndC; first | rw [if_pos (by omega)] | rw [if_neg (by omega), if_pos ⟨by assumption, by omega⟩] | rw [if_neg (by omega), if_neg (by rintro ⟨g1, g2⟩; first | contradiction | omega), if_pos (by omega)] | rw [if_neg (by omega), if_neg (by rintro ⟨g1, g2⟩; first | contradiction | omega), if_neg (by omega)])) Ent.take
      · refine L_gt_off h3 rfl rfl ?_ (fun _ h => by cases h; rfl)
        refine L_gt_off h3 rfl rfl ?_ (fun _ h => by cases h; rfl)
        refine L_gskipU r r (by simp [h3]) r<|L_gU r r r<|L_gU r r r<|L_gU r r r<|L_gU r r r<|L_gU r r r ?_
        refine L_gt_off h3 rfl rfl ?_ (fun _ h => by cases h; rfl)
        refine lv (opv_pick_f r h3 r) r<|an r<|cf r<|sa r ?_
        first | refine fz r ?_ | refine fy r ?_
        refine ld r r ?_
        first | refine ll r ?_ | refine lv (opv_lenS r) r ?_
        first | refine lv (opv_add64 r r (by omega)) r ?_ | refine lv (opv_addS r r (by omega)) r ?_ | refine lv (opv_add r r) r ?_
        refine lv (opv_gtr r r) r<|an r ?_
        refine J_cond rfl (fun h7 => ?_) (fun h7 => ?_)
        · refine san r<|jr<|kq<|kd ?_
          exact K_ret1 rfl rfl () trivial (congrArg (Value.int .i64) (by unfold sndC; first | rw [if_pos (by omega)] | rw [if_neg (by omega), if_pos ⟨by assumption, by omega⟩] | rw [if_neg (by omega), if_neg (by rintro ⟨g1, g2⟩; first | contradiction | omega), if_pos (by omega)] | rw [if_neg (by omega), if_neg (by rintro ⟨g1, g2⟩; first | contradiction | omega), if_neg (by omega)])) Ent.take
        · refine skb<|san r<|jr ?_
          exact K_ret1 rfl rfl () trivial (congrArg (Value.int .i64) (by unfold sndC; first | rw [if_pos (by omega)] | rw [if_neg (by omega), if_pos ⟨by assumption, by omega⟩] | rw [if_neg (by omega), if_neg (by rintro ⟨g1, g2⟩; first | contradiction | omega), if_pos (by omega)] | rw [if_neg (by omega), if_neg (by rintro ⟨g1, g2⟩; first | contradiction | omega), if_neg (by omega)])) Ent.take
  · refine L_gf_off h1 rfl rfl ?_ (fun _ h => by cases h; rfl)
    refine L_gf_off h1 rfl rfl ?_ (fun _ h => by cases h; rfl)
    refine L_gf_off h1 rfl rfl ?_ (fun _ h => by cases h; rfl)
    refine L_gf_off h1 rfl rfl ?_ (fun _ h => by cases h; rfl)
    refine lv (opv_pick_t r h1 r) r<|an r<|ct r<|san r<|jr<|kq<|kd ?_
    exact K_ret1 rfl rfl () trivial (congrArg (Value.int .i64) (by unfold sndC; first | rw [if_pos (by omega)] | rw [if_neg (by omega), if_pos ⟨by assumption, by omega⟩] | rw [if_neg (by omega), if_neg (by rintro ⟨g1, g2⟩; first | contradiction | omega), if_pos (by omega)] | rw [if_neg (by omega), if_neg (by rintro ⟨g1, g2⟩; first | contradiction | omega), if_neg (by omega)])) Ent.take
theorem is_spec (x k : Ky) (b3 : Nat) : FSpec Tryz.prog 79 #[.agg [.int .u8 x.s0, .int .u8 x.s1, .int .u8 x.s2, .int .u8 x.s3, .int .u8 x.d0, .int .u8 x.d1, .int .u8 x.d2, .int .u8 x.d3, .int .i64 x.proto, .int .i64 x.id].toArray, .pointer (some (ad b3 0))] (cel b3 (encKy k) 122) (fun _ : Unit => True) (fun _ => .bool (decide (x = k))) (fun _ => cel b3 (encKy k) 122) := by
  refine en Tryz.func79 r fun σ F=>sr<|lx r (opx_box (l := [.int .u8 x.s0, .int .u8 x.s1, .int .u8 x.s2, .int .u8 x.s3, .int .u8 x.d0, .int .u8 x.d1, .int .u8 x.d2, .int .u8 x.d3, .int .i64 x.proto, .int .i64 x.id]) r r) fun b2 _=>an r<|sr<|ls r<|lv (opv_loadN (vs := encKy k) r r (fun j u hj => Rd.look (l := encKy k) (by rw [Nat.zero_add]; exact hj))) r<|lv ((opv_eqlF (l := encKy x) (r := encKy k) r r (shKy x) (shKy k)).as (v' := .bool (decide (x = k))) (congrArg Value.bool (decide_eq_decide.2 encKy_inj))) r<|an r<|jr ?_
  exact K_ret1 rfl rfl () trivial (rfl) Ent.take
theorem IndexKey_spec (A : Option Addr) (b3 c : Nat) (L : List Ky) (k : Ky) (hq : L.length ≤ 1000000000) : FSpec Tryz.prog 115 #[.slice A L.length c, .func (.func 79) #[] #[.pointer (some (ad b3 0))]] ((sep (Own 122 10 (.slice A L.length c) L.length (flatK L)) (cel b3 (encKy k) 122))) (fun _ : Unit => True) (fun _ => .int .i64 (if fix L k < L.length then ((fix L k : Nat) : Int) else -1)) (fun _ => (sep (Own 122 10 (.slice A L.length c) L.length (flatK L)) (cel b3 (encKy k) 122))) := by
  refine en Tryz.func115 r fun σ F=>?_
  refine J_eq _ (sep_assoc _ _ _) ?_
  refine J_know (fun w hs => own_nonnil hs) fun hA => ?_
  refine san r<|js<|sa r ?_
  first | refine ll r ?_ | refine lv (opv_lenS r) r ?_
  refine an r<|jb ?_
  refine J_loop (X := Nat) (fun i => [(0, .slice A L.length c), (1, .func (.func 79) #[] #[.pointer (some (ad b3 0))]), (7, .int .i64 L.length), (8, .int .i64 i)]) (fun i => (sep (Own 122 10 (.slice A L.length c) L.length (flatK L)) (sep (cel b3 (encKy k) 122) (F)))) (fun i => i ≤ fix L k) (fun i => L.length - i) (0) (Nat.zero_le _) ⟨rfl, rfl, rfl, rfl, trivial⟩ (Ent.refl _) (fun i hi => ?_)
  refine sr<|lv (opv_lss r r) r<|nj ?_
  refine J_cond rfl (fun h1 => ?_) (fun h1 => ?_)
  · have hil : i < L.length := by omega
    obtain ⟨x, hx⟩ : ∃ x, L[i]? = some x := ⟨_, List.getElem?_eq_getElem hil⟩
    obtain ⟨b, o, rfl⟩ : ∃ b o, A = some (ad b o) := by rcases hA with ⟨_, _, h, _⟩ | h; omega; exact h
    refine sk<|js<|jb<|sb r<|nr<|ec r ?_
    first | refine lv (opv_indexAddr r r (by omega)) r ?_ | refine lv (opv_indexAddrA r r (by omega)) r ?_
    refine lv (opv_loadN (vs := [.int .u8 x.s0, .int .u8 x.s1, .int .u8 x.s2, .int .u8 x.s3, .int .u8 x.d0, .int .u8 x.d1, .int .u8 x.d2, .int .u8 x.d3, .int .i64 x.proto, .int .i64 x.id]) r r (fun j u hj => Rd.of_take (S := Own 122 10 (.slice (some (ad b o)) L.length c) L.length (flatK L)) ((RdS.own (m := 10) (e := 122) (c := c) encKy_len (.inr ⟨b, o, r⟩)).rd b o r i x j u hx hj))) r<|lx r (opx_call (first := []) (captured := [.pointer (some (ad b3 0))]) (is_spec x k b3) r r r r) fun _ _=>nk ?_
    refine J_cond_bool rfl (fun h2 => ?_) (fun h2 => ?_)
    · refine sb r<|nk<|jr<|kq<|kd<|kd<|kq<|kd ?_
      have e := fix_here hi hx (of_decide_eq_true h2)
      exact K_ret1 rfl rfl () trivial (congrArg (Value.int .i64) (by rw [if_pos (by omega), e])) Ent.take
    · refine skb<|jg ?_
      first | refine lv (opv_add64 r r (by omega)) r ?_ | refine lv (opv_addS r r (by omega)) r ?_ | refine lv (opv_add r r) r ?_
      refine ea r<|ln ?_
      exact K_loop (i + 1) (fix_next hi hx (of_decide_eq_false h2)) (by omega) ⟨rfl, rfl, rfl, rfl, trivial⟩ Ent.takes
  · refine J_exit ?_
    refine ke<|ke<|kh<|kt<|san r<|jr ?_
    have hle := fix_le L k
    exact K_ret1 rfl rfl () trivial (congrArg (Value.int .i64) (by rw [if_neg (by omega)])) Ent.take
end Go.Proofs.YtpkcniedaabpoaaGreat
namespace Go.Proofs.YtpkcniedaabpoaaGreat
open Go.SLA
set_option maxRecDepth 100000
attribute [local irreducible] J L K QL Rg FSpec OpV OpX Rd Back
theorem set_take {M : List Ky} {i : Nat} {x : Ky} (hi : i < M.length) : (M.set i x).take (i + 1) = M.take i ++ [x] := by
  rw [List.set_eq_take_append_cons_drop, if_pos hi, List.append_cons]
  exact List.take_left' (by rw [List.length_append, List.length_take]; simp; omega)
theorem set_drop {M : List Ky} {i j : Nat} {x : Ky} (h : i < j) : (M.set i x).drop j = M.drop j := List.ext_getElem? fun n => by rw [List.getElem?_drop, List.getElem?_drop, List.getElem?_set_ne (by omega)]
theorem drop_get {M L : List Ky} {j : Nat} (h : M.drop j = L.drop j) : M[j]? = L[j]? := by
  have := congrArg (fun l : List Ky => l[0]?) h
  simpa [List.getElem?_drop] using this
theorem drop_succ {M L : List Ky} {j : Nat} (h : M.drop j = L.drop j) : M.drop (j + 1) = L.drop (j + 1) := by
  rw [← List.drop_drop, ← List.drop_drop, h]
theorem del_own {b c n i : Nat} {pre post l' : List Value} {M W : List Ky} (h1 : l'.take (pre.length + i * 10) = (pre ++ flatK M ++ post).take (pre.length + i * 10)) (h2 : l'.length = (pre ++ flatK M ++ post).length) (hM : M.length = n) (hi : i ≤ n) (hW : M.take i = W) (hc : n ≤ c) (hc2 : c ≤ maxLen) (hp : (c - n) * 10 ≤ post.length) : Ent (cel b l' 122) (Own 122 10 (.slice (some (ad b pre.length)) W.length c) W.length (flatK W)) := by
  have hWl : W.length = i := by rw [← hW, List.length_take]; omega
  have hm := flatK_len M
  have e1 : (pre ++ flatK M ++ post).take (pre.length + i * 10) = pre ++ flatK W := by
    have : flatK M = flatK W ++ flatK (M.drop i) := by
      unfold flatK
      rw [← hW, ← List.flatMap_append, List.take_append_drop]
    rw [this, show pre ++ (flatK W ++ flatK (M.drop i)) ++ post = (pre ++ flatK W) ++ (flatK (M.drop i) ++ post) by simp]
    exact List.take_left' (by rw [List.length_append, flatK_len, hWl])
  have e2 : l' = pre ++ flatK W ++ l'.drop (pre.length + i * 10) := by rw [← e1, ← h1, List.take_append_drop]
  rw [e2]
  refine Own.mk rfl (by omega) hc2 (by rw [flatK_len]) ?_
  simp only [List.length_append] at h2
  rw [List.length_drop, h2, hm, hM, hWl]
  omega
theorem Del_no (A : Option Addr) (b3 c : Nat) (L : List Ky) (k : Ky) (hq : L.length ≤ 1000000000) (h : ¬ fix L k < L.length) : FSpec Tryz.prog 78 #[.slice A L.length c, .func (.func 79) #[] #[.pointer (some (ad b3 0))]] ((sep (Own 122 10 (.slice A L.length c) L.length (flatK L)) (cel b3 (encKy k) 122))) (fun _ : Unit => True) (fun _ => .slice A L.length c) (fun _ => (sep (Own 122 10 (.slice A L.length c) L.length (flatK L)) (cel b3 (encKy k) 122))) := by
  refine en Tryz.func78 r fun σ F=>san r<|sb r<|cy (IndexKey_spec A b3 c L k hq) r fun _=>?_
  rw [if_neg h]
  refine an r<|js<|sa r<|lv ((opv_eql r r).bool_t r) r<|nt r<|sb r<|nk<|jr<|kd ?_
  exact K_ret1 rfl rfl () trivial (rfl) Ent.take
theorem Del_yes (A : Option Addr) (b3 c : Nat) (L : List Ky) (k : Ky) (hq : L.length ≤ 1000000000) (h : fix L k < L.length) : FSpec Tryz.prog 78 #[.slice A L.length c, .func (.func 79) #[] #[.pointer (some (ad b3 0))]] ((sep (Own 122 10 (.slice A L.length c) L.length (flatK L)) (cel b3 (encKy k) 122))) (fun r : Option Addr × Nat => True) (fun r => .slice r.1 (wo L k).length r.2) (fun r => (sep (Own 122 10 (.slice r.1 (wo L k).length r.2) (wo L k).length (flatK (wo L k))) (cel b3 (encKy k) 122))) := by
  refine en Tryz.func78 rfl fun σ F=>san rfl<|sb rfl<|cy (IndexKey_spec A b3 c L k hq) rfl fun _=>?_
  rw [if_pos h]
  refine an rfl<|js<|sa rfl<|lv ((opv_eql rfl rfl).bool_f (by omega)) rfl<|nf rfl<|sk<|js<|js ?_
  refine J_eq _ (sep_assoc _ _ _) ?_
  refine J_own (fun e1 e2 e3 => absurd h (by rw [e2]; exact Nat.not_lt_zero _)) fun b cap pre post e1 e2 e3 e4 e5=>?_
  simp only [Value.slice.injEq] at e1
  obtain ⟨rfl, _, rfl⟩ := e1
  refine jg<|ea rfl ?_
  first | refine lv (opv_add64 rfl rfl (by omega)) rfl ?_ | refine lv (opv_addS rfl rfl (by omega)) rfl ?_ | refine lv (opv_add rfl rfl) rfl ?_
  refine an rfl<|jb ?_
  refine J_loop (X := Nat × Nat × List Ky) (fun z => [(0, .slice (some (ad b pre.length)) L.length c), (1, .func (.func 79) #[] #[.pointer (some (ad b3 0))]), (5, .int .i64 z.1), (6, .int .i64 z.2.1)]) (fun z => (sep (cel b (pre ++ flatK z.2.2 ++ post) 122) (sep (cel b3 (encKy k) 122) (F)))) (fun z => z.2.2.length = L.length ∧ z.1 < z.2.1 ∧ z.2.1 ≤ L.length ∧ z.2.2.take z.1 = wo (L.take z.2.1) k ∧ z.2.2.drop z.2.1 = L.drop z.2.1) (fun z => L.length - z.2.1) ((fix L k, fix L k + 1, L)) ⟨rfl, Nat.lt_succ_self _, h, by dsimp only; rw [tk_snoc (fix_at h).1, wo_app, wo_one_eq rfl, (fix_at h).2, List.append_nil], rfl⟩ ⟨rfl, rfl, rfl, rfl, trivial⟩ (Ent.refl _) (fun z hz => ?_)
  obtain ⟨zM, z1, z2, zt, zd⟩ := hz
  have hiM : z.1 < z.2.2.length := by omega
  have hfl := flatK_len z.2.2
  refine js<|sb rfl ?_
  first | refine ll rfl ?_ | refine lv (opv_lenS rfl) rfl ?_
  refine lv (opv_lss rfl rfl) rfl<|nk ?_
  refine J_cond rfl (fun h1 => ?_) (fun h1 => ?_)
  · have hjl : z.2.1 < L.length := by omega
    obtain ⟨x, hx⟩ : ∃ x, L[z.2.1]? = some x := ⟨_, List.getElem?_eq_getElem hjl⟩
    have hxM : z.2.2[z.2.1]? = some x := (drop_get zd).trans hx
    refine sk<|js<|jb<|sb rfl ?_
    first | refine lv (opv_indexAddr rfl rfl (by omega)) rfl ?_ | refine lv (opv_indexAddrA rfl rfl (by omega)) rfl ?_
    refine lv (opv_loadN (vs := [.int .u8 x.s0, .int .u8 x.s1, .int .u8 x.s2, .int .u8 x.s3, .int .u8 x.d0, .int .u8 x.d1, .int .u8 x.d2, .int .u8 x.d3, .int .i64 x.proto, .int .i64 x.id]) rfl rfl (fun j u hj => Rd.elem encKy_len (q := z.2.2) hxM hj)) rfl<|al rfl fun b7=>?_
    refine lx rfl (opx_store rfl rfl rfl (by simp [Value.oneCell'])) fun _ _=>nr<|ea rfl<|ls rfl<|lx rfl (opx_call (first := []) (captured := [.pointer (some (ad b3 0))]) (is_spec x k b3) rfl rfl rfl rfl) fun _ _=>?_
    first | refine lv (opv_notD rfl) rfl ?_ | refine lv (opv_not rfl) rfl ?_
    refine nk ?_
    refine J_cond rfl (fun h2 => ?_) (fun h2 => ?_)
    · refine sb rfl<|ls rfl ?_
      first | refine lv (opv_indexAddr rfl rfl (by omega)) rfl ?_ | refine lv (opv_indexAddrA rfl rfl (by omega)) rfl ?_
      refine lx rfl (opx_storeAt (m := 10) (vs := encKy x) (l' := pre ++ flatK (z.2.2.set z.1 x) ++ post) rfl rfl rfl (encKy_one x) (by simp only [List.length_append, Int.toNat_natCast, encKy_len]; omega) (by rw [Int.toNat_natCast]; exact flatK_set pre post hiM)) fun _ _=>nk<|jg<|ea rfl ?_
      first | refine lv (opv_add64 rfl rfl (by omega)) rfl ?_ | refine lv (opv_addS rfl rfl (by omega)) rfl ?_ | refine lv (opv_add rfl rfl) rfl ?_
      refine ea rfl<|ln<|kb<|kt<|jg<|ea rfl ?_
      first | refine lv (opv_add64 rfl rfl (by omega)) rfl ?_ | refine lv (opv_addS rfl rfl (by omega)) rfl ?_ | refine lv (opv_add rfl rfl) rfl ?_
      refine ea rfl<|ln ?_
      exact K_loop ((z.1 + 1, z.2.1 + 1, z.2.2.set z.1 x)) ⟨by dsimp only; rw [List.length_set]; exact zM, by dsimp only; omega, by dsimp only; omega, by dsimp only; rw [set_take hiM, tk_snoc hx, wo_app, wo_one_ne h2, zt], by dsimp only; rw [set_drop (by omega)]; exact drop_succ zd⟩ (by dsimp only; omega) ⟨rfl, rfl, rfl, rfl, trivial⟩ (Ent.take (Q := (sep (cel b (pre ++ flatK (z.2.2.set z.1 x) ++ post) 122) (sep (cel b3 (encKy k) 122) (F)))))
    · refine skb<|jg<|ea rfl ?_
      first | refine lv (opv_add64 rfl rfl (by omega)) rfl ?_ | refine lv (opv_addS rfl rfl (by omega)) rfl ?_ | refine lv (opv_add rfl rfl) rfl ?_
      refine ea rfl<|ln ?_
      exact K_loop ((z.1, z.2.1 + 1, z.2.2)) ⟨zM, by dsimp only; omega, by dsimp only; omega, by dsimp only; rw [tk_snoc hx, wo_app, wo_one_eq (Classical.not_not.1 h2), zt, List.append_nil], drop_succ zd⟩ (by dsimp only; omega) ⟨rfl, rfl, rfl, rfl, trivial⟩ (Ent.take (Q := (sep (cel b (pre ++ flatK z.2.2 ++ post) 122) (sep (cel b3 (encKy k) 122) (F)))))
  · have hje : z.2.1 = L.length := by omega
    have hW : z.2.2.take z.1 = wo L k := by rw [zt, hje, List.take_length]
    have hz1 : z.1 = (wo L k).length := by rw [← hW, List.length_take]; omega
    refine J_exit ?_
    refine ke<|ke<|kh<|kt<|sb rfl<|lv ((opv_sliceLlo rfl rfl (by omega)).as (v' := .slice (some (ad b (pre.length + z.1 * 10))) (L.length - z.1) (c - z.1)) (by rw [Int.toNat_natCast, cutV_at, if_neg (by omega)])) rfl<|lx rfl (opx_clear (m := 10) (zs := [.int .u8 0, .int .u8 0, .int .u8 0, .int .u8 0, .int .u8 0, .int .u8 0, .int .u8 0, .int .u8 0, .int .i64 0, .int .i64 0]) rfl rfl (by simp [Value.oneCell']) (by simp only [List.length_append]; omega)) fun l' hl'=>nr<|eb rfl<|lv ((opv_sliceLhi rfl rfl (by omega)).as (v' := .slice (some (ad b pre.length)) z.1 c) (by rw [Int.toNat_natCast, cutV_at]; simp)) rfl<|an rfl<|jr ?_
    exact K_ret1 rfl rfl (some (ad b pre.length), c) trivial (by rw [hz1]) (Ent.trans (Ent.take (Q := (sep (cel b l' 122) (sep (cel b3 (encKy k) 122) (F))))) (Ent.trans (Ent.frame (del_own (n := L.length) (i := z.1) hl'.1 hl'.2 zM (by omega) hW e2 e3 e5) _) (Ent.of (sep_assoc _ _ _).symm)))
theorem Del_any (A : Option Addr) (b3 c : Nat) (L : List Ky) (k : Ky) (hq : L.length ≤ 1000000000) : FSpec Tryz.prog 78 #[.slice A L.length c, .func (.func 79) #[] #[.pointer (some (ad b3 0))]] ((sep (Own 122 10 (.slice A L.length c) L.length (flatK L)) (cel b3 (encKy k) 122))) (fun _ : Option Addr × Nat => True) (fun r => .slice r.1 (wo L k).length r.2) (fun r => (sep (Own 122 10 (.slice r.1 (wo L k).length r.2) (wo L k).length (flatK (wo L k))) (cel b3 (encKy k) 122))) := by
  by_cases h : fix L k < L.length
  · exact Del_yes A b3 c L k hq h
  · rw [fix_no h]
    exact (Del_no A b3 c L k hq h).conseq (Ent.refl _) fun _ _ => ⟨(A, c), trivial, rfl, Ent.refl _⟩
theorem forget_raw (p r : Nat) (c2 c3 c4 c5 : Value) (A : Option Addr) (c : Nat) (L : List Ky) (f : List Value → Option Value) (k : Ky) (hq : L.length ≤ 1000000000) : FSpec Tryz.prog 54 #[.pointer (some (ad p 0)), .agg [.int .u8 k.s0, .int .u8 k.s1, .int .u8 k.s2, .int .u8 k.s3, .int .u8 k.d0, .int .u8 k.d1, .int .u8 k.d2, .int .u8 k.d3, .int .i64 k.proto, .int .i64 k.id].toArray] ((sep (cel p [.map (some r), .slice A L.length c, c2, c3, c4, c5] 96) (sep (mapp r ksKy f) (Own 122 10 (.slice A L.length c) L.length (flatK L))))) (fun z : Option Addr × Nat => True) (fun z => .tuple #[]) (fun z => (sep (cel p [.map (some r), .slice z.1 (wo L k).length z.2, c2, c3, c4, c5] 96) (sep (mapp r ksKy (mdel f (encKy k))) (Own 122 10 (.slice z.1 (wo L k).length z.2) (wo L k).length (flatK (wo L k)))))) := by
  refine en Tryz.func54 rfl fun σ F=>?_
  refine J_eq _ (sep_assoc _ _ _) ?_
  refine J_eq _ (congrArg (sep _) (sep_assoc _ _ _)) ?_
  refine sr<|lx rfl (opx_box (l := [.int .u8 k.s0, .int .u8 k.s1, .int .u8 k.s2, .int .u8 k.s3, .int .u8 k.d0, .int .u8 k.d1, .int .u8 k.d2, .int .u8 k.d3, .int .i64 k.proto, .int .i64 k.id]) rfl rfl) fun b3 _=>nj<|J_steps ((sep (cel b3 [.int .u8 k.s0, .int .u8 k.s1, .int .u8 k.s2, .int .u8 k.s3, .int .u8 k.d0, .int .u8 k.d1, .int .u8 k.d2, .int .u8 k.d3, .int .i64 k.proto, .int .i64 k.id] 122) (cel p [.map (some r), .slice A L.length c, c2, c3, c4, c5] 96))) ((sep (cel b3 [.int .u8 k.s0, .int .u8 k.s1, .int .u8 k.s2, .int .u8 k.s3, .int .u8 k.d0, .int .u8 k.d1, .int .u8 k.d2, .int .u8 k.d3, .int .i64 k.proto, .int .i64 k.id] 122) (cel p [.map (some r), .slice A L.length c, c2, c3, c4, c5] 96))) [] Tryz.mixed<|pe 0 rfl rfl<|pe 1 rfl rfl ?_
  first | refine ps 2 rfl (opv_fieldAddr0 rfl) ?_ | refine ps 2 rfl (opv_fieldAddr rfl) ?_
  refine R_ts 3 rfl (by kernel_rfl) (opv_load rfl (Rd.look rfl)) rfl<|R_ts 4 rfl (by kernel_rfl) (opv_loadS rfl) rfl<|pn 5 rfl (opx_delete0 (k := encKy k) (f := f) rfl rfl (shKy k)) fun _ _=>dn<|kt ?_
  refine J_eq (sep (mapp r ksKy (mdel f (encKy k))) (sep (cel b3 (encKy k) 122) (sep (cel p [.map (some r), .slice A L.length c, c2, c3, c4, c5] 96) (sep (Own 122 10 (.slice A L.length c) L.length (flatK L)) (F))))) rfl ?_
  refine jg<|ec rfl ?_
  first | refine fz rfl ?_ | refine fy rfl ?_
  refine ld rfl rfl<|lv (opv_makeFunc rfl rfl) rfl<|cy (Del_any A b3 c L k hq) rfl fun z=>?_
  refine L_eq _ (sep_assoc _ _ _) ?_
  refine ea rfl ?_
  first | refine fz rfl ?_ | refine fy rfl ?_
  refine lx rfl (opx_store rfl rfl rfl (by simp [Value.oneCell'])) fun _ _=>ln ?_
  exact K_end0 rfl z trivial rfl (Ent.take (Q := (sep ((sep (cel p [.map (some r), .slice z.1 (wo L k).length z.2, c2, c3, c4, c5] 96) (sep (mapp r ksKy (mdel f (encKy k))) (Own 122 10 (.slice z.1 (wo L k).length z.2) (wo L k).length (flatK (wo L k)))))) (F))))
theorem drop_raw (p r : Nat) (c2 c3 c4 : Value) (A : Option Addr) (c : Nat) (L : List Ky) (f : List Value → Option Value) (k : Ky) (hq : L.length ≤ 1000000000) (d : Int) (hd : -1000000000 ≤ d ∧ d ≤ 1000000000) : FSpec Tryz.prog 53 #[.pointer (some (ad p 0)), .agg [.int .u8 k.s0, .int .u8 k.s1, .int .u8 k.s2, .int .u8 k.s3, .int .u8 k.d0, .int .u8 k.d1, .int .u8 k.d2, .int .u8 k.d3, .int .i64 k.proto, .int .i64 k.id].toArray] ((sep (cel p [.map (some r), .slice A L.length c, c2, c3, c4, .int .i64 d] 96) (sep (mapp r ksKy f) (Own 122 10 (.slice A L.length c) L.length (flatK L))))) (fun z : Option Addr × Nat => True) (fun z => .tuple #[]) (fun z => (sep (cel p [.map (some r), .slice z.1 (wo L k).length z.2, c2, c3, c4, .int .i64 (d + 1)] 96) (sep (mapp r ksKy (mdel f (encKy k))) (Own 122 10 (.slice z.1 (wo L k).length z.2) (wo L k).length (flatK (wo L k)))))) := by
  refine en Tryz.func53 rfl fun σ F=>sr<|lx rfl (opx_box (l := [.int .u8 k.s0, .int .u8 k.s1, .int .u8 k.s2, .int .u8 k.s3, .int .u8 k.d0, .int .u8 k.d1, .int .u8 k.d2, .int .u8 k.d3, .int .i64 k.proto, .int .i64 k.id]) rfl rfl) fun b3 _=>nr<|ea rfl<|ls rfl<|cy (forget_raw p r c2 c3 c4 (.int .i64 d) A c L f k hq) rfl fun z=>?_
  refine L_eq _ (sep_assoc _ _ _) ?_
  refine nk<|jg<|eb rfl ?_
  first | refine fz rfl ?_ | refine fy rfl ?_
  refine ld rfl rfl ?_
  first | refine lv (opv_add64 rfl rfl (by omega)) rfl ?_ | refine lv (opv_addS rfl rfl (by omega)) rfl ?_ | refine lv (opv_add rfl rfl) rfl ?_
  refine ea rfl ?_
  first | refine fz rfl ?_ | refine fy rfl ?_
  refine lx rfl (opx_store rfl rfl rfl (by simp [Value.oneCell'])) fun _ _=>ln ?_
  exact K_end0 rfl z trivial rfl (Ent.take (Q := (sep ((sep (cel p [.map (some r), .slice z.1 (wo L k).length z.2, c2, c3, c4, .int .i64 (d + 1)] 96) (sep (mapp r ksKy (mdel f (encKy k))) (Own 122 10 (.slice z.1 (wo L k).length z.2) (wo L k).length (flatK (wo L k)))))) (F))))
end Go.Proofs.YtpkcniedaabpoaaGreat
namespace Go.Proofs.YtpkcniedaabpoaaGreat
open Go.SLA
set_option maxRecDepth 100000
attribute [local irreducible] J L K QL Rg FSpec OpV OpX Rd Back
/-- A packet that is begun: its key, when it was begun, its bytes so far. -/
structure Bg where
  k : Ky
  t : Int
  data : ByteArray
/-- What a table holds: packets that are begun, its tick, how many were given up. -/
structure TS where
  q : List Bg
  now : Int
  dr : Int
def keysOf (q : List Bg) : List Ky := q.map (·.k)
theorem keysOf_len (q : List Bg) : (keysOf q).length = q.length := List.length_map ..
def wob (q : List Bg) (k : Ky) : List Bg := q.filter fun b => !decide (b.k = k)
theorem keysOf_wob (q : List Bg) (k : Ky) : keysOf (wob q k) = wo (keysOf q) k := by
  unfold keysOf wob wo
  rw [List.filter_map]
  rfl
/-- The begun one at a block. -/
def begP (e : Bg × Nat) : HProp := ex fun x : Option Addr × Nat => (sep (cel e.2 [.int .i64 e.1.t, .slice x.1 e.1.data.size x.2] 127) (OwnB 5 x e.1.data))
theorem begP.fold {e : Bg × Nat} {F : HProp} (u : Option Addr × Nat) : Ent (sep (cel e.2 [.int .i64 e.1.t, .slice u.1 e.1.data.size u.2] 127) (sep (OwnB 5 u e.1.data) (F))) (sep (begP e) (F)) :=
  Ent.trans (Ent.of (sep_assoc _ _ _).symm) (Ent.ex (f := fun x : Option Addr × Nat => (sep (cel e.2 [.int .i64 e.1.t, .slice x.1 e.1.data.size x.2] 127) (OwnB 5 x e.1.data))) u)
def begs : List (Bg × Nat) → HProp
  | [] => emp
  | e :: l => (sep (begP e) (begs l))
theorem begs_app : ∀ (l1 l2 : List (Bg × Nat)), begs (l1 ++ l2) = (sep (begs l1) (begs l2))
  | [], l2 => (emp_sep _).symm
  | e :: l1, l2 => by
    show (sep (begP e) (begs (l1 ++ l2))) = _
    rw [begs_app l1 l2, ← sep_assoc]
    rfl
theorem begs_one (e : Bg × Nat) : begs [e] = begP e := sep_emp _
/-- A map leads each key to its block. -/
structure MapIs (es : List (Bg × Nat)) (f : List Value → Option Value) : Prop where
  nd : (keysOf (es.map (·.1))).Nodup
  at_ : ∀ k : Ky, f (encKy k) = (es.find? fun e => decide (e.1.k = k)).map fun e => Value.pointer (some (ad e.2 0))
theorem MapIs.nil : MapIs [] (fun _ => none) := ⟨List.nodup_nil, fun _ => rfl⟩
theorem MapIs.del {es : List (Bg × Nat)} {f : List Value → Option Value} (h : MapIs es f) (k : Ky) : MapIs (es.filter fun e => !decide (e.1.k = k)) (mdel f (encKy k)) := by
  refine ⟨?_, fun k' => ?_⟩
  · refine h.nd.sublist ?_
    exact (List.filter_sublist.map _).map _
  · rw [List.find?_filter]
    by_cases e : k' = k
    · subst e
      rw [mdel_same]
      have : (es.find? fun a => decide ((!decide (a.1.k = k')) = true ∧ decide (a.1.k = k') = true)) = none := by
        rw [List.find?_eq_none]
        intro a _
        simp
      rw [this]; rfl
    · rw [mdel_other (fun h => e (encKy_inj.1 h)), h.at_]
      congr 1
      congr 1
      funext a
      by_cases ha : a.1.k = k'
      · simp [ha, e]
      · simp [ha]
theorem MapIs.put {es : List (Bg × Nat)} {f : List Value → Option Value} (h : MapIs es f) (b : Bg) (n : Nat) (hn : ∀ e ∈ es, e.1.k ≠ b.k) : MapIs (es ++ [(b, n)]) (mput f (encKy b.k) (.pointer (some (ad n 0)))) := by
  refine ⟨?_, fun k' => ?_⟩
  · unfold keysOf
    rw [List.map_append, List.map_append, List.nodup_append]
    refine ⟨h.nd, by simp, fun a ha c hc => ?_⟩
    simp only [List.map_cons, List.map_nil, List.mem_singleton] at hc
    rw [List.map_map] at ha
    obtain ⟨e, he, rfl⟩ := List.mem_map.1 ha
    rw [hc]
    exact hn e he
  · rw [List.find?_append]
    by_cases e : k' = b.k
    · subst e
      have : (es.find? fun e => decide (e.1.k = b.k)) = none := by
        rw [List.find?_eq_none]
        intro a ha
        simp [hn a ha]
      rw [mput_same, this]
      simp
    · rw [mput_other (fun h => e (encKy_inj.1 h)), h.at_]
      have : (([(b, n)] : List (Bg × Nat)).find? fun e => decide (e.1.k = k')) = none := by
        rw [List.find?_eq_none]
        intro a ha
        rw [List.mem_singleton.1 ha]
        simp [Ne.symm e]
      rw [this]
      simp
/-- A table at p, with room for m and a wait of wt. -/
def TabP (p : Nat) (m wt : Int) (T : TS) : HProp := ex fun x : Nat × (Option Addr × Nat) × List (Bg × Nat) × (List Value → Option Value) => (sep (lift (x.2.2.1.map (·.1) = T.q ∧ MapIs x.2.2.1 x.2.2.2)) (sep (cel p [.map (some x.1), .slice x.2.1.1 (keysOf T.q).length x.2.1.2, .int .i64 m, .int .i64 wt, .int .i64 T.now, .int .i64 T.dr] 96) (sep (mapp x.1 ksKy x.2.2.2) (sep (Own 122 10 (.slice x.2.1.1 (keysOf T.q).length x.2.1.2) (keysOf T.q).length (flatK (keysOf T.q))) (begs x.2.2.1)))))
theorem TabP.fold {p : Nat} {m wt : Int} {T : TS} {F : HProp} (r : Nat) (a : Option Addr × Nat) (es : List (Bg × Nat)) (f : List Value → Option Value) (h1 : es.map (·.1) = T.q) (h2 : MapIs es f) : Ent (sep (cel p [.map (some r), .slice a.1 (keysOf T.q).length a.2, .int .i64 m, .int .i64 wt, .int .i64 T.now, .int .i64 T.dr] 96) (sep (mapp r ksKy f) (sep (Own 122 10 (.slice a.1 (keysOf T.q).length a.2) (keysOf T.q).length (flatK (keysOf T.q))) (sep (begs es) (F))))) (sep (TabP p m wt T) (F)) := by
  refine Ent.trans (Ent.lift (p := es.map (·.1) = T.q ∧ MapIs es f) ⟨h1, h2⟩) (Ent.trans (Ent.of ?_) (Ent.ex (f := fun x : Nat × (Option Addr × Nat) × List (Bg × Nat) × (List Value → Option Value) => (sep (lift (x.2.2.1.map (·.1) = T.q ∧ MapIs x.2.2.1 x.2.2.2)) (sep (cel p [.map (some x.1), .slice x.2.1.1 (keysOf T.q).length x.2.1.2, .int .i64 m, .int .i64 wt, .int .i64 T.now, .int .i64 T.dr] 96) (sep (mapp x.1 ksKy x.2.2.2) (sep (Own 122 10 (.slice x.2.1.1 (keysOf T.q).length x.2.1.2) (keysOf T.q).length (flatK (keysOf T.q))) (begs x.2.2.1)))))) (r, a, es, f)))
  simp only [sep_assoc]
theorem TabP.sat {σ w : World} {p : Nat} {m wt : Int} {T : TS} {F : HProp} (h : Sat σ w (sep (TabP p m wt T) (F))) : ∃ x : Nat × (Option Addr × Nat) × List (Bg × Nat) × (List Value → Option Value), ((x.2.2.1.map (·.1) = T.q ∧ MapIs x.2.2.1 x.2.2.2) ∧ ((x.2.1.1 = none ∧ T.q = []) ∨ ∃ b o, x.2.1.1 = some (ad b o))) ∧ Sat σ w (sep (cel p [.map (some x.1), .slice x.2.1.1 (keysOf T.q).length x.2.1.2, .int .i64 m, .int .i64 wt, .int .i64 T.now, .int .i64 T.dr] 96) (sep (mapp x.1 ksKy x.2.2.2) (sep (Own 122 10 (.slice x.2.1.1 (keysOf T.q).length x.2.1.2) (keysOf T.q).length (flatK (keysOf T.q))) (sep (begs x.2.2.1) (F))))) := by
  obtain ⟨x, hx⟩ := sat_ex.1 h
  simp only [sep_assoc] at hx
  obtain ⟨h1, h2⟩ := sat_lift.1 hx
  refine ⟨x, ⟨h1, ?_⟩, h2⟩
  rcases own_nonnil h2.drop.drop with ⟨g1, _, g2, _⟩ | g
  · rw [keysOf_len] at g2
    exact .inl ⟨g1, List.eq_nil_of_length_eq_zero g2⟩
  · exact .inr g
/-- What is wrong with a tick. -/
def timC (cur now : Int) : Int := if 1125899906842624 < now then 1 else if now < cur then 24 else 0
def late (wt now : Int) (b : Bg) : Bool := decide (wt < now - b.t)
/-- Time goes on. -/
def TS.pass (T : TS) (wt now : Int) : TS := ⟨T.q.dropWhile (late wt now), now, T.dr + (T.q.takeWhile (late wt now)).length⟩
theorem pass_go {b : Bg} {q : List Bg} {n0 now wt d : Int} (h : wt < now - b.t) : TS.pass ⟨b :: q, n0, d⟩ wt now = TS.pass ⟨q, now, d + 1⟩ wt now := by
  have hl : late wt now b = true := decide_eq_true h
  unfold TS.pass
  simp only [List.dropWhile_cons, List.takeWhile_cons, hl, if_true, List.length_cons]
  congr 1
  omega
theorem pass_stop {q : List Bg} {n0 now wt d : Int} (h : ∀ b, q.head? = some b → ¬ wt < now - b.t) : TS.pass ⟨q, n0, d⟩ wt now = ⟨q, now, d⟩ := by
  unfold TS.pass
  cases q with
  | nil => simp
  | cons b q =>
    have hl : late wt now b = false := decide_eq_false (h b rfl)
    simp [List.dropWhile_cons, List.takeWhile_cons, hl]
/-- What is true of a table behind n calls. -/
structure TOk (n : Nat) (T : TS) : Prop where
  now : 0 ≤ T.now ∧ T.now ≤ 1125899906842624
  bg : ∀ b ∈ T.q, (0 ≤ b.t ∧ b.t ≤ 1125899906842624) ∧ b.data.size ≤ 8200
  nd : (keysOf T.q).Nodup
  dr : 0 ≤ T.dr
  n : T.dr + T.q.length ≤ n
theorem tl_wo {b : Bg} {q : List Bg} (h : (keysOf (b :: q)).Nodup) : wo (keysOf (b :: q)) b.k = keysOf q ∧ wob (b :: q) b.k = q := by
  have h2 := List.nodup_cons.1 (show (b.k :: keysOf q).Nodup from h)
  constructor
  · show wo ([b.k] ++ keysOf q) b.k = _
    rw [wo_app, wo_one_eq rfl, List.nil_append, wo_none fun x hx e => h2.1 (by rw [← e]; exact hx)]
  · unfold wob
    rw [List.filter_cons, if_neg (by simp)]
    rw [List.filter_eq_self]
    intro x hx
    have : x.k ≠ b.k := fun e => h2.1 (e ▸ List.mem_map.2 ⟨x, hx, rfl⟩)
    simp [this]
theorem filt_tl {e : Bg × Nat} {es : List (Bg × Nat)} (h : (keysOf ((e :: es).map (·.1))).Nodup) : ((e :: es).filter fun a => !decide (a.1.k = e.1.k)) = es := by
  have h2 := List.nodup_cons.1 (show (e.1.k :: keysOf (es.map (·.1))).Nodup from h)
  rw [List.filter_cons, if_neg (by simp), List.filter_eq_self]
  intro x hx
  have : x.1.k ≠ e.1.k := fun h => h2.1 (h ▸ List.mem_map.2 ⟨x.1, List.mem_map.2 ⟨x, hx, rfl⟩, rfl⟩)
  simp [this]
def ts0 : TS := ⟨[], 0, 0⟩
theorem rnew {p r : Nat} {m wt : Int} {F : HProp} : Ent (sep (cel p [.map (some r), .slice none 0 0, .int .i64 m, .int .i64 wt, .int .i64 0, .int .i64 0] 96) (sep (mapp r ksKy (fun _ => none)) (F))) (sep (TabP p m wt ts0) (F)) :=
  Ent.trans (Ent.frame_left (Ent.frame_left (Ent.trans (Ent.of (emp_sep F).symm) (Ent.trans (Ent.frame_left (Ent.of (emp_sep F).symm) _) ((Own.nil 122 10).frame _))) _) _) (TabP.fold (T := ts0) r (none, 0) [] (fun _ => none) rfl MapIs.nil)
theorem New_ok (a c : Int) (ha : 1 ≤ a ∧ a ≤ 64) (hc : 0 ≤ c ∧ c ≤ 1125899906842624) : FSpec Tryz.prog 10 #[.int .i64 a, .int .i64 c] (emp) (fun p : Nat => True) (fun p => .tuple #[.pointer (some (ad p 0)), .int .i64 0]) (fun p => TabP p a c ts0) := by
  refine en Tryz.func10 r fun σ F=>J_emp<|sb r<|nj<|sa r<|lv ((opv_lss r r).bool_f (by omega)) r<|ea r<|go r<|ea r<|go r<|lv ((opv_gtr r r).bool_f (by omega)) r ?_
  first | refine ea r ?_ | refine lv (opv_pick r r r) r ?_
  refine ea r<|go r<|ea r<|go r<|lv ((opv_lss r r).bool_f (by omega)) r ?_
  first | refine ea r ?_ | refine lv (opv_pick r r r) r ?_
  refine ea r<|go r<|ea r<|go r<|lv ((opv_gtr r r).bool_f (by omega)) r ?_
  first | refine ea r ?_ | refine lv (opv_pick r r r) r ?_
  refine nf r<|sk<|sr<|lx r (opx_makeMap ksKy r) fun r20 _=>eb r<|lv (opv_build r) r<|bx r fun b24=>eb r<|nk<|jr ?_
  exact K_ret2 rfl rfl rfl b24 trivial rfl rnew
theorem Pass_bad (p : Nat) (m wt : Int) (T : TS) (now : Int) (h : timC T.now now ≠ 0) : FSpec Tryz.prog 49 #[.pointer (some (ad p 0)), .int .i64 now] (TabP p m wt T) (fun _ : Unit => True) (fun _ => .int .i64 (timC T.now now)) (fun _ => TabP p m wt T) := by
  unfold timC at h ⊢
  refine en Tryz.func49 r fun σ F=>J_pre _ _ (fun w hs => TabP.sat hs) fun x hx => ?_
  obtain ⟨⟨hx1, hx2⟩, hx3⟩ := hx
  refine san r<|js<|jb<|sa r ?_
  first | refine lv (opv_eql r r) r ?_ | refine lv (opv_eqlS r r) r ?_ | refine lv (opv_eqlNil r r) r ?_ | refine lv (opv_eqlB r r) r ?_
  refine an r<|cf r<|sa r<|lv (opv_gtr r r) r<|an r ?_
  refine J_cond rfl (fun h1 => ?_) (fun h1 => ?_)
  · refine san r<|jr<|kq<|kd ?_
    exact K_ret1 rfl rfl () trivial (congrArg (Value.int .i64) (by first | rw [if_pos (by omega)] | rw [if_neg (by omega), if_pos (by omega)])) (TabP.fold x.1 x.2.1 x.2.2.1 x.2.2.2 hx1 hx2)
  · refine sr<|ec r ?_
    first | refine fz r ?_ | refine fy r ?_
    refine ld r r<|lv (opv_lss r r) r<|an r ?_
    refine J_cond rfl (fun h2 => ?_) (fun h2 => absurd (by rw [if_neg (by omega), if_neg h2]) h)
    refine san r<|jr<|kq<|kd ?_
    exact K_ret1 rfl rfl () trivial (congrArg (Value.int .i64) (by first | rw [if_pos (by omega)] | rw [if_neg (by omega), if_pos (by omega)])) (TabP.fold x.1 x.2.1 x.2.2.1 x.2.2.2 hx1 hx2)
set_option maxHeartbeats 600000 in
theorem Pass_ok (p : Nat) (m wt : Int) (T : TS) (now : Int) (h : timC T.now now = 0) (n : Nat) (hT : TOk n T) (hn : n ≤ 1000000) (hwt : 0 ≤ wt ∧ wt ≤ 1125899906842624) : FSpec Tryz.prog 49 #[.pointer (some (ad p 0)), .int .i64 now] (TabP p m wt T) (fun _ : Unit => True) (fun _ => .int .i64 0) (fun _ => TabP p m wt (T.pass wt now)) := by
  have hnow : T.now ≤ now ∧ now ≤ 1125899906842624 := by unfold timC at h; split at h; cases h; split at h; cases h; omega
  have hT1 := hT.now
  have hT2 := hT.dr
  have hT3 := hT.n
  refine en Tryz.func49 rfl fun σ F=>J_pre _ _ (fun w hs => TabP.sat hs) fun x hx => ?_
  obtain ⟨⟨hx1, hx2⟩, hx3⟩ := hx
  refine san rfl<|js<|jb<|sa rfl ?_
  first | refine lv (opv_eql rfl rfl) rfl ?_ | refine lv (opv_eqlS rfl rfl) rfl ?_ | refine lv (opv_eqlNil rfl rfl) rfl ?_ | refine lv (opv_eqlB rfl rfl) rfl ?_
  refine an rfl<|cf rfl<|sa rfl<|lv ((opv_gtr rfl rfl).bool_f (by omega)) rfl<|an rfl<|cf rfl<|sr<|ec rfl ?_
  first | refine fz rfl ?_ | refine fy rfl ?_
  refine ld rfl rfl<|lv ((opv_lss rfl rfl).bool_f (by omega)) rfl<|an rfl<|cf rfl<|skb<|sr<|ec rfl ?_
  first | refine fz rfl ?_ | refine fy rfl ?_
  refine lx rfl (opx_store rfl rfl rfl (by simp [Value.oneCell'])) fun _ _=>nj<|jb ?_
  refine J_loop (X := TS) (fun y => [(0, .pointer (some (ad p 0))), (1, .int .i64 now)]) (fun y => (sep (TabP p m wt y) (F))) (fun y => y.now = now ∧ T.pass wt now = y.pass wt now ∧ (∀ b ∈ y.q, (0 ≤ b.t ∧ b.t ≤ 1125899906842624) ∧ b.data.size ≤ 8200) ∧ y.dr + y.q.length ≤ 1000000 ∧ 0 ≤ y.dr) (fun y => y.q.length) (⟨T.q, now, T.dr⟩) ⟨rfl, rfl, hT.bg, by dsimp only; omega, hT2⟩ ⟨rfl, rfl, trivial⟩ (TabP.fold (T := ⟨T.q, now, T.dr⟩) x.1 x.2.1 x.2.2.1 x.2.2.2 hx1 hx2) (fun y hy => ?_)
  clear hx1 hx2 hx3 x
  obtain ⟨hyn, hy, hyb, hyl, hyd⟩ := hy
  refine J_pre _ _ (fun w hs => TabP.sat hs) fun x hx => ?_
  obtain ⟨⟨hx1, hx2⟩, hx3⟩ := hx
  obtain ⟨r, ⟨A, c⟩, es, f⟩ := x
  dsimp only at hx1 hx2 hx3
  refine J_eq (sep (cel p [.map (some r), .slice A (keysOf y.q).length c, .int .i64 m, .int .i64 wt, .int .i64 now, .int .i64 y.dr] 96) (sep (mapp r ksKy f) (sep (Own 122 10 (.slice A (keysOf y.q).length c) (keysOf y.q).length (flatK (keysOf y.q))) (sep (begs es) (F))))) (by rw [hyn]) ?_
  cases es with
  | nil => ?_
  | cons e rest => ?_
  · refine js<|js<|J_quiet Tryz.mixed (by kernel_rfl)<|qb rfl ?_
    first | refine qz rfl ?_ | refine qy rfl ?_
    refine ql rfl rfl ?_
    first | refine qv (opv_lenL rfl) rfl ?_ | refine qv (opv_lenS rfl) rfl ?_
    first | refine qv ((opv_gtr rfl rfl).bool_t (by omega)) rfl ?_ | refine qv ((opv_gtr rfl rfl).bool_f (by rw [show y.q = [] from hx1.symm]; decide)) rfl ?_
    refine qa rfl ?_
    refine Q_gskip rfl rfl rfl ?_ (fun _ h => by cases h; rfl)
    refine Q_gskip rfl rfl rfl ?_ (fun _ h => by cases h; rfl)
    refine Q_gskip rfl rfl rfl ?_ (fun _ h => by cases h; rfl)
    refine Q_gskip rfl rfl rfl ?_ (fun _ h => by cases h; rfl)
    refine Q_gskip rfl rfl rfl ?_ (fun _ h => by cases h; rfl)
    refine Q_gskip rfl rfl rfl ?_ (fun _ h => by cases h; rfl)
    refine Q_gskip rfl rfl rfl ?_ (fun _ h => by cases h; rfl)
    refine Q_gskip rfl rfl rfl ?_ (fun _ h => by cases h; rfl)
    refine Q_gskip rfl rfl rfl ?_ (fun _ h => by cases h; rfl)
    refine Q_gskip rfl rfl rfl ?_ (fun _ h => by cases h; rfl)
    refine Q_gskip rfl rfl rfl ?_ (fun _ h => by cases h; rfl)
    refine Q_gskip rfl rfl rfl ?_ (fun _ h => by cases h; rfl)
    refine Q_gskip rfl rfl rfl ?_ (fun _ h => by cases h; rfl)
    refine Q_gskip rfl rfl rfl ?_ (fun _ h => by cases h; rfl)
    refine Q_gskip rfl rfl rfl ?_ (fun _ h => by cases h; rfl)
    refine Q_gskip rfl rfl rfl ?_ (fun _ h => by cases h; rfl)
    refine Q_gskip rfl rfl rfl ?_ (fun _ h => by cases h; rfl)
    refine Q_gskip rfl rfl rfl ?_ (fun _ h => by cases h; rfl)
    refine Q_gskip rfl rfl rfl ?_ (fun _ h => by cases h; rfl)
    refine Q_gskip rfl rfl rfl ?_ (fun _ h => by cases h; rfl)
    refine Q_gskip rfl rfl rfl ?_ (fun _ h => by cases h; rfl)
    first | refine qv (opv_pick_tt rfl rfl) rfl ?_ | refine qv (opv_pick_ff rfl rfl) rfl ?_ | refine qv (opv_pick rfl rfl rfl) rfl ?_
    refine qn<|kt<|cf rfl ?_
    refine J_exit ?_
    refine ke<|ke<|kh<|kt<|san rfl<|jr ?_
    have hqn : y.q = [] := hx1.symm
    have hs := pass_stop (q := y.q) (n0 := y.now) (now := now) (wt := wt) (d := y.dr) (fun b hb => by rw [hqn] at hb; cases hb)
    exact K_ret1 rfl rfl () trivial rfl (Ent.trans (TabP.fold (T := ⟨y.q, now, y.dr⟩) r (A, c) [] f hx1 hx2) (Ent.of (by rw [hy, ← hs])))
  · refine js<|js ?_
    obtain ⟨b, o, rfl⟩ : ∃ b o, A = some (ad b o) := by rcases hx3 with ⟨_, g⟩ | g; (rw [← hx1] at g; cases g); exact g
    refine J_eq (sep (begP e) (sep (cel p [.map (some r), .slice (some (ad b o)) (keysOf y.q).length c, .int .i64 m, .int .i64 wt, .int .i64 now, .int .i64 y.dr] 96) (sep (mapp r ksKy f) (sep (Own 122 10 (.slice (some (ad b o)) (keysOf y.q).length c) (keysOf y.q).length (flatK (keysOf y.q))) (sep (begs rest) (F)))))) (by show (sep (_) (sep (_) (sep (_) (sep ((sep (begP e) (begs rest))) (F))))) = _; ac_rfl) ?_
    refine J_ex fun u => ?_
    refine J_eq _ (sep_assoc _ _ _) ?_
    have hq0 : keysOf y.q = e.1.k :: keysOf (rest.map (·.1)) := by rw [← hx1]; rfl
    have hql : (keysOf y.q).length = rest.length + 1 := by rw [hq0]; simp [keysOf]
    have hk0 : (keysOf y.q)[0]? = some e.1.k := by rw [hq0]; rfl
    have hfk : (f (encKy e.1.k)).getD (.pointer none) = .pointer (some (ad e.2 0)) := by rw [hx2.at_]; simp
    have hbe := hyb e.1 (by rw [← hx1]; exact List.mem_map.2 ⟨e, List.mem_cons_self .., rfl⟩)
    have hy4 : y.q.length = rest.length + 1 := by rw [← hx1]; simp
    refine J_quiet Tryz.mixed (by kernel_rfl)<|qb rfl ?_
    first | refine qz rfl ?_ | refine qy rfl ?_
    refine ql rfl rfl ?_
    first | refine qv (opv_lenL rfl) rfl ?_ | refine qv (opv_lenS rfl) rfl ?_
    first | refine qv ((opv_gtr rfl rfl).bool_t (by omega)) rfl ?_ | refine qv ((opv_gtr rfl rfl).bool_f (by rw [show y.q = [] from hx1.symm]; decide)) rfl ?_
    refine qa rfl<|qo rfl<|qa rfl<|qo rfl<|qa rfl<|qo rfl<|qa rfl<|qo rfl ?_
    first | refine qz rfl ?_ | refine qy rfl ?_
    refine qo rfl<|ql rfl rfl<|qo rfl<|qa rfl<|qo rfl<|qa rfl<|qo rfl ?_
    first | refine qz rfl ?_ | refine qy rfl ?_
    refine qo rfl<|ql rfl rfl<|qo rfl<|qv (opv_indexAddr rfl rfl (by omega)) rfl<|qo rfl<|qv (opv_loadN (vs := [.int .u8 e.1.k.s0, .int .u8 e.1.k.s1, .int .u8 e.1.k.s2, .int .u8 e.1.k.s3, .int .u8 e.1.k.d0, .int .u8 e.1.k.d1, .int .u8 e.1.k.d2, .int .u8 e.1.k.d3, .int .i64 e.1.k.proto, .int .i64 e.1.k.id]) rfl rfl (fun j u hj => Rd.of_take (S := Own 122 10 (.slice (some (ad b o)) (keysOf y.q).length c) (keysOf y.q).length (flatK (keysOf y.q))) ((RdS.own (m := 10) (e := 122) (c := c) encKy_len (.inr ⟨b, o, rfl⟩)).rd b o rfl 0 e.1.k j u hk0 hj))) rfl<|qo rfl<|qv ((opv_lookup (k := encKy e.1.k) (f := f) rfl rfl (shKy _)).as (v' := .pointer (some (ad e.2 0))) hfk) rfl<|qo rfl<|qa rfl<|qo rfl ?_
    first | refine qz rfl ?_ | refine qy rfl ?_
    refine qo rfl<|ql rfl rfl<|qo rfl ?_
    first | refine qv (opv_sub64 rfl rfl (by omega)) rfl ?_ | refine qv (opv_sub rfl rfl) rfl ?_
    refine qo rfl<|qa rfl<|qo rfl<|qa rfl<|qo rfl ?_
    first | refine qz rfl ?_ | refine qy rfl ?_
    refine qo rfl<|ql rfl rfl<|qo rfl<|qv (opv_gtr rfl rfl) rfl ?_
    first | refine qv (opv_pick_tt rfl rfl) rfl ?_ | refine qv (opv_pick_ff rfl rfl) rfl ?_ | refine qv (opv_pick rfl rfl rfl) rfl ?_
    refine qn<|kt ?_
    refine J_cond rfl (fun h1 => ?_) (fun h1 => ?_)
    · refine sk<|jb<|jg<|ec rfl ?_
      first | refine fz rfl ?_ | refine fy rfl ?_
      refine ld rfl rfl<|lv (opv_indexAddr rfl rfl (by omega)) rfl<|lv (opv_loadN (vs := [.int .u8 e.1.k.s0, .int .u8 e.1.k.s1, .int .u8 e.1.k.s2, .int .u8 e.1.k.s3, .int .u8 e.1.k.d0, .int .u8 e.1.k.d1, .int .u8 e.1.k.d2, .int .u8 e.1.k.d3, .int .i64 e.1.k.proto, .int .i64 e.1.k.id]) rfl rfl (fun j u hj => Rd.of_take (S := Own 122 10 (.slice (some (ad b o)) (keysOf y.q).length c) (keysOf y.q).length (flatK (keysOf y.q))) ((RdS.own (m := 10) (e := 122) (c := c) encKy_len (.inr ⟨b, o, rfl⟩)).rd b o rfl 0 e.1.k j u hk0 hj))) rfl<|cy (drop_raw p r (.int .i64 m) (.int .i64 wt) (.int .i64 now) (some (ad b o)) c (keysOf y.q) f e.1.k (by omega) y.dr (by omega)) rfl fun z=>ln<|kb ?_
      have hnd := hx2.nd
      have hyq : y.q = e.1 :: rest.map (·.1) := hx1.symm
      have hwo : wo (keysOf y.q) e.1.k = keysOf (rest.map (·.1)) := by rw [hyq]; exact (tl_wo hnd).1
      have hpg := pass_go (b := e.1) (q := rest.map (·.1)) (n0 := y.now) (now := now) (wt := wt) (d := y.dr) h1
      rw [hwo]
      exact K_loop (⟨rest.map (·.1), now, y.dr + 1⟩) ⟨rfl, by rw [hy]; show TS.pass ⟨y.q, y.now, y.dr⟩ wt now = _; rw [hyq]; exact hpg, fun b hb => hyb b (by rw [hyq]; exact List.mem_cons_of_mem _ hb), by dsimp only; rw [List.length_map]; omega, by dsimp only; omega⟩ (by dsimp only; rw [List.length_map]; omega) ⟨rfl, rfl, trivial⟩ (Ent.trans (Ent.take (Q := (sep (cel p [.map (some r), .slice z.1 (keysOf (rest.map (·.1))).length z.2, .int .i64 m, .int .i64 wt, .int .i64 now, .int .i64 (y.dr + 1)] 96) (sep (mapp r ksKy (mdel f (encKy e.1.k))) (sep (Own 122 10 (.slice z.1 (keysOf (rest.map (·.1))).length z.2) (keysOf (rest.map (·.1))).length (flatK (keysOf (rest.map (·.1))))) (sep (begs rest) (F))))))) (TabP.fold (T := ⟨rest.map (·.1), now, y.dr + 1⟩) r z rest (mdel f (encKy e.1.k)) rfl (by have := hx2.del e.1.k; rwa [filt_tl hnd] at this)))
    · refine J_exit ?_
      refine ke<|ke<|kh<|kt<|san rfl<|jr ?_
      have hs := pass_stop (q := y.q) (n0 := y.now) (now := now) (wt := wt) (d := y.dr) (fun b hb => by rw [← hx1] at hb; cases hb; exact h1)
      exact K_ret1 rfl rfl () trivial rfl (Ent.trans (Ent.take (Q := (sep (cel e.2 [.int .i64 e.1.t, .slice u.1 e.1.data.size u.2] 127) (sep (OwnB 5 u e.1.data) (sep (cel p [.map (some r), .slice (some (ad b o)) (keysOf y.q).length c, .int .i64 m, .int .i64 wt, .int .i64 now, .int .i64 y.dr] 96) (sep (mapp r ksKy f) (sep (Own 122 10 (.slice (some (ad b o)) (keysOf y.q).length c) (keysOf y.q).length (flatK (keysOf y.q))) (sep (begs rest) (F))))))))) (Ent.trans (begP.fold u) (Ent.trans (Ent.of (Q := (sep (cel p [.map (some r), .slice (some (ad b o)) (keysOf y.q).length c, .int .i64 m, .int .i64 wt, .int .i64 now, .int .i64 y.dr] 96) (sep (mapp r ksKy f) (sep (Own 122 10 (.slice (some (ad b o)) (keysOf y.q).length c) (keysOf y.q).length (flatK (keysOf y.q))) (sep (begs (e :: rest)) (F)))))) (by show _ = (sep (_) (sep (_) (sep (_) (sep ((sep (begP e) (begs rest))) (F))))); ac_rfl)) (Ent.trans (TabP.fold (T := ⟨y.q, now, y.dr⟩) r (some (ad b o), c) (e :: rest) f hx1 hx2) (Ent.of (by rw [hy, ← hs]))))))
end Go.Proofs.YtpkcniedaabpoaaGreat
