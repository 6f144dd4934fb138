/- Rules of a separation logic over the model, and contracts of functions of the translation; used by the texts that import this one. -/
import Derived.Test.YtpkcniedaabpoaaGreatM3
import Derived.Test.YtpkcniedaabpoaaGreatM1
import Derived.Test.YtpkcniedaabpoaaGreatM2
set_option linter.unusedVariables false
set_option linter.unusedSimpArgs false
namespace Go.Proofs.YtpkcniedaabpoaaGreat
open Go.SLA
set_option maxRecDepth 100000
attribute [local irreducible] J L K QL Rg FSpec OpV OpX Rd Back
/-- The byte at i, as a number. -/
def bn (s : ByteArray) (i : Nat) : Nat := (s.data.toList.getD i 0).toNat
theorem bn_lt (s : ByteArray) (i : Nat) : bn s i < 256 := (s.data.toList.getD i 0).toNat_lt
/-- The sum of 16 bits of the first k bytes. -/
def wsum (s : ByteArray) : Nat → Nat
  | 0 => 0
  | k + 1 => wsum s k + bn s k * (if k % 2 = 0 then 256 else 1)
theorem wsum_le (s : ByteArray) : ∀ k, wsum s k ≤ 65280 * k
  | 0 => Nat.le_refl _
  | k + 1 => by
    have := wsum_le s k
    have := bn_lt s k
    rw [wsum]
    split <;> omega
/-- What runs over taken in again. -/
def fold (n : Nat) : Nat := if h : n ≤ 65535 then n else fold (n / 65536 + n % 65536)
termination_by n
decreasing_by omega
theorem fold_le (n : Nat) : fold n ≤ 65535 := by
  induction n using Nat.strongRecOn with
  | _ n ih =>
    rw [fold]
    split
    · assumption
    · exact ih _ (by omega)
theorem fold_a {n : Nat} (h : n ≤ 65535) : fold n = n := by rw [fold, dif_pos h]
theorem fold_b {n : Nat} (h : ¬ n ≤ 65535) : fold n = fold (n / 65536 + n % 65536) := by rw [fold, dif_neg h]
/-- Ones of a string. -/
def ones (s : ByteArray) : Nat := 65535 - fold (wsum s s.size)
theorem ru64 {a b : Int} (h : a = b) : Value.int .u64 a = .int .u64 b := by rw [h]
theorem mul256 (v k : Nat) (h : v < 256) : IntKind.u64.wrap ((v : Int) * 2 ^ (min (8 * (1 - ((k : Int) % 2))).toNat IntKind.u64.bits)) = ((v * (if k % 2 = 0 then 256 else 1) : Nat) : Int) := by
  have hb : IntKind.u64.bits = 64 := rfl
  rw [hb]
  by_cases hk : k % 2 = 0
  · have : (k : Int) % 2 = 0 := by omega
    rw [this, if_pos hk]
    show IntKind.u64.wrap ((v : Int) * 256) = _
    rw [Go.IntWalk.u64_in _ (by omega)]
    omega
  · have : (k : Int) % 2 = 1 := by omega
    rw [this, if_neg hk]
    show IntKind.u64.wrap ((v : Int) * 1) = _
    rw [Go.IntWalk.u64_in _ (by omega)]
    omega
theorem shr16 (m : Nat) : Value.int .u64 ((m : Int) / 2 ^ (min (Int.toNat 16) IntKind.u64.bits)) = .int .u64 ((m / 65536 : Nat) : Int) := by
  show Value.int .u64 ((m : Int) / 65536) = _
  rw [show ((m / 65536 : Nat) : Int) = (m : Int) / 65536 by omega]
theorem and16 (m : Nat) (h : m < 18446744073709551616) : Value.int .u64 (IntKind.u64.wrap (((BitVec.ofInt IntKind.u64.bits (m : Int) &&& BitVec.ofInt IntKind.u64.bits 65535).toNat : Nat) : Int)) = .int .u64 ((m % 65536 : Nat) : Int) := by
  have := low_bits (w := 64) (m := 16) (a := (m : Int)) (by decide) (by constructor; omega; show (m : Int) < 18446744073709551616; omega)
  have e : ((BitVec.ofInt IntKind.u64.bits (m : Int) &&& BitVec.ofInt IntKind.u64.bits 65535).toNat : Int) = (m : Int) % 65536 := this
  rw [e, Go.IntWalk.u64_in _ (by omega)]
  rw [show ((m % 65536 : Nat) : Int) = (m : Int) % 65536 by omega]
theorem compl16 (m : Nat) (h : m ≤ 65535) : Value.int .u16 (IntKind.u16.wrap (((BitVec.ofInt IntKind.u16.bits (if IntKind.u16.signed then -1 else IntKind.u16.max) ^^^ BitVec.ofInt IntKind.u16.bits (m : Int)).toNat : Nat) : Int)) = .int .u16 ((65535 - m : Nat) : Int) := by
  show Value.int .u16 (IntKind.u16.wrap (((BitVec.ofInt 16 65535 ^^^ BitVec.ofInt 16 (m : Int)).toNat : Nat) : Int)) = _
  have e : BitVec.ofInt 16 65535 = BitVec.allOnes 16 := by decide
  have e2 : BitVec.ofInt 16 (m : Int) = BitVec.ofNat 16 m := BitVec.ofInt_natCast ..
  rw [e, e2, BitVec.allOnes_xor, BitVec.toNat_not, BitVec.toNat_ofNat, Nat.mod_eq_of_lt (by omega)]
  rw [Go.IntWalk.u16_in _ (by omega)]
theorem Ones_spec (s : ByteArray) (hs : s.size ≤ 281474976710656) : FSpec Tryz.prog 35 #[.string s] (emp) (fun _ : Unit => True) (fun _ => .int .i64 (ones s)) (fun _ => emp) := by
  have hws := wsum_le s s.size
  refine en Tryz.func35 r fun σ F=>san r<|san r<|js<|sa r ?_
  first | refine ll r ?_ | refine lv (opv_lenS r) r ?_
  refine an r<|jb ?_
  refine J_loop (X := Nat) (fun k => [(0, .string s), (3, .int .u64 (wsum s k)), (6, .int .i64 s.size), (7, .int .i64 k)]) (fun k => (sep (emp) (F))) (fun k => k ≤ s.size) (fun k => s.size - k) (0) (Nat.zero_le _) ⟨rfl, rfl, rfl, rfl, trivial⟩ (Ent.refl _) (fun k hk => ?_)
  have hw := wsum_le s k
  have hb1 := bn_lt s k
  refine sr<|lv (opv_lss r r) r<|nj ?_
  refine J_cond rfl (fun h1 => ?_) (fun h1 => ?_)
  · refine sk<|js<|jb<|sb r<|nk<|jg<|ec r<|lv (opv_indexS r r (by omega)) r<|lv (opv_convW r (Go.IntWalk.u64_in _ (by have h2 := byt_lt s (Int.toNat k); have h3 := byt_ge s (Int.toNat k); omega))) r<|ea r ?_
    first | refine lv (opv_remP r r (by omega)) r ?_ | refine lv (opv_rem r r (by omega)) r ?_
    first | refine lv (opv_sub64 r r (by omega)) r ?_ | refine lv (opv_sub r r) r ?_
    first | refine lv (opv_mul64 r r (by omega)) r ?_ | refine lv (opv_mul r r) r ?_
    refine lv (opv_convW r (Go.IntWalk.u64_in _ (by omega))) r<|lv ((opv_shl r r (by omega)).as (ru64 (mul256 (bn s k) k hb1))) r<|lv ((opv_addW r r (Go.IntWalk.u64_in _ (by have h2 : bn s k * (if k % 2 = 0 then 256 else 1) ≤ 65280 := (by split <;> omega); omega))).as (v' := .int .u64 (wsum s (k + 1))) r) r<|ea r<|ln<|kb<|kt<|jg ?_
    first | refine lv (opv_add64 r r (by omega)) r ?_ | refine lv (opv_addS r r (by omega)) r ?_ | refine lv (opv_add r r) r ?_
    refine ea r<|ln ?_
    exact K_loop (k + 1) (by omega) (by omega) ⟨rfl, rfl, rfl, rfl, trivial⟩ (Ent.refl _)
  · have he : k = s.size := by omega
    subst he
    refine J_exit ?_
    refine ke<|ke<|kh<|kt<|js<|jb ?_
    refine J_loop (X := Nat) (fun m => [(3, .int .u64 m)]) (fun m => (sep (emp) (F))) (fun m => m < 18446744073709551616 ∧ fold m = fold (wsum s s.size)) (fun m => m) ((wsum s s.size)) ⟨by omega, rfl⟩ ⟨rfl, trivial⟩ (Ent.refl _) (fun m hm => ?_)
    obtain ⟨hm, hf⟩ := hm
    refine js<|sa r<|lv ((opv_shrP r r (by omega)).as (shr16 m)) r ?_
    first | refine lv (opv_neq r r) r ?_ | refine lv (opv_neqS r r) r ?_ | refine lv (opv_neqNil r r) r ?_ | refine lv (opv_neqB r r) r ?_
    refine nk ?_
    refine J_cond rfl (fun h2 => ?_) (fun h2 => ?_)
    · refine sk<|jb<|jg<|ea r<|lv ((opv_shrP r r (by omega)).as (shr16 m)) r<|ea r<|lv ((opv_and r r).as (and16 m hm)) r<|lv ((opv_addW r r (Go.IntWalk.u64_in _ (by omega))).as (v' := .int .u64 ((m / 65536 + m % 65536 : Nat) : Int)) r) r<|ea r<|ln<|kb ?_
      exact K_loop (m / 65536 + m % 65536) ⟨by omega, by rw [← hf]; exact (fold_b (by omega)).symm⟩ (by omega) ⟨rfl, trivial⟩ (Ent.refl _)
    · refine J_exit ?_
      refine ke<|ke<|kh<|kt<|sa r ?_
      first | refine lv (opv_convW r (Go.IntWalk.u16_in _ (by omega))) r ?_ | refine lv (opv_convert r) r ?_
      refine lv ((opv_compl r).as (compl16 m (by omega))) r ?_
      first | refine lv (opv_convW r (Go.IntWalk.i64_in _ (by omega))) r ?_ | refine lv (opv_convert r) r ?_
      refine an r<|jr ?_
      have hfm : fold m = m := fold_a (by omega)
      exact K_ret1 rfl rfl () trivial (by rw [ones, ← hf, hfm]) (Ent.refl _)
end Go.Proofs.YtpkcniedaabpoaaGreat
namespace Go.Proofs.YtpkcniedaabpoaaGreat
open Go.SLA
set_option maxRecDepth 100000
attribute [local irreducible] J L K QL Rg FSpec OpV OpX Rd Back
theorem bfits_spec (m w : Int) (hw : 0 ≤ w ∧ w ≤ 9223372036854775807) (hm : -9223372036854775808 ≤ m ∧ m ≤ 9223372036854775807) : FSpec Tryz.prog 67 #[.int .i64 m, .int .i64 w] (emp) (fun _ : Unit => True) (fun _ => .bool (decide (0 ≤ m ∧ m / 2 ^ (min w.toNat 64) = 0))) (fun _ => emp) := by
  refine en Tryz.func67 r fun σ F=>san r<|sa r<|lv (opv_geq r r) r<|ea r ?_
  refine L_gt rfl rfl (fun h1 => ?_) (fun h1 => ?_) (fun _ h => by cases h; rfl)
  · refine ea r<|L_gt_on h1 r r ?_
    first | refine lv (opv_convW r (Go.IntWalk.u64_in _ (by omega))) r ?_ | refine lv (opv_convert r) r ?_
    refine L_gt_on h1 r r<|ea r<|L_gt_on h1 r r ?_
    first | refine lv (opv_convW r (Go.IntWalk.u64_in _ (by omega))) r ?_ | refine lv (opv_convert r) r ?_
    refine L_gt_on h1 r r ?_
    first | refine lv (opv_shrP r r (by omega)) r ?_ | refine lv (opv_shr r r (by omega)) r ?_
    refine L_gt_on h1 r r ?_
    first | refine lv (opv_eql r r) r ?_ | refine lv (opv_eqlS r r) r ?_ | refine lv (opv_eqlNil r r) r ?_ | refine lv (opv_eqlB r r) r ?_
    refine lv (opv_pick_t r h1 r) r<|an r<|jr ?_
    exact K_ret1 rfl rfl () trivial (by congr 1; exact decide_eq_decide.2 ⟨fun h => ⟨by omega, h⟩, fun h => h.2⟩) (Ent.refl _)
  · refine L_gt_off h1 rfl rfl ?_ (fun _ h => by cases h; rfl)
    refine L_gt_off h1 rfl rfl ?_ (fun _ h => by cases h; rfl)
    refine L_gt_off h1 rfl rfl ?_ (fun _ h => by cases h; rfl)
    refine L_gt_off h1 rfl rfl ?_ (fun _ h => by cases h; rfl)
    refine L_gt_off h1 rfl rfl ?_ (fun _ h => by cases h; rfl)
    refine lv (opv_pick_f r h1 r) r<|an r<|jr ?_
    exact K_ret1 rfl rfl () trivial (by congr 1; exact (decide_eq_false (fun h => absurd h.1 (by omega))).symm) (Ent.refl _)
end Go.Proofs.YtpkcniedaabpoaaGreat
namespace Go.Proofs.YtpkcniedaabpoaaGreat
open Go.SLA
set_option maxRecDepth 100000
attribute [local irreducible] J L K QL Rg FSpec OpV OpX Rd Back
/-- A writer at p: what was written, and whether something was wrong. -/
def WrP (p : Nat) (s : ByteArray) (bad : Bool) : HProp := ex fun x : Option Addr × Nat => (sep (cel p [.slice x.1 (ByteArray.size s) x.2, .bool bad] 84) (Own 5 1 (.slice x.1 (ByteArray.size s) x.2) (ByteArray.size s) (bts s)))
theorem WrP.fold {p : Nat} {s : ByteArray} {bad : Bool} {F : HProp} (x : Option Addr × Nat) : Ent (sep (cel p [.slice x.1 (ByteArray.size s) x.2, .bool bad] 84) (sep (Own 5 1 (.slice x.1 (ByteArray.size s) x.2) (ByteArray.size s) (bts s)) (F))) (sep (WrP p s bad) (F)) := by
  rw [← sep_assoc]
  exact Ent.ex (f := fun x : Option Addr × Nat => (sep (cel p [.slice x.1 (ByteArray.size s) x.2, .bool bad] 84) (Own 5 1 (.slice x.1 (ByteArray.size s) x.2) (ByteArray.size s) (bts s)))) x
/-- The c bytes of a number, the highest ones first. -/
def be (m : Nat) : Nat → ByteArray
  | 0 => bytesL []
  | c + 1 => bytesL [((m / 256 ^ c % 256 : Nat) : Int)] ++ be m c
theorem be_size (m : Nat) : ∀ c, (be m c).size = c
  | 0 => rfl
  | c + 1 => by rw [be, ByteArray.size_append, bytesL_size, be_size m c]; simp; omega
/-- Has a number so few bits? -/
def fitB (m : Int) (w : Nat) : Prop := 0 ≤ m ∧ m / 2 ^ (min ((w : Int)).toNat 64) = 0
instance (m : Int) (w : Nat) : Decidable (fitB m w) := inferInstanceAs (Decidable (_ ∧ _))
theorem fit_lt {m : Int} {c : Nat} (h : fitB m (8 * c)) (hc : c ≤ 4) : 0 ≤ m ∧ m < 2 ^ (8 * c) ∧ m < 4294967296 := by
  obtain ⟨h0, h1⟩ := h
  have e : (min (((8 * c : Nat) : Int)).toNat 64) = 8 * c := by rw [Int.toNat_natCast]; omega
  rw [e] at h1
  have hp : (0 : Int) < 2 ^ (8 * c) := Int.pow_pos (by decide)
  have h2 : m < 2 ^ (8 * c) := by
    rcases Int.lt_or_le m (2 ^ (8 * c)) with h | h
    · exact h
    · exfalso
      have := Int.ediv_pos_of_pos_of_dvd (a := 1) (b := 1) (by decide) (by decide) (by decide)
      have h3 : 1 ≤ m / 2 ^ (8 * c) := by
        rw [Int.le_ediv_iff_mul_le hp]; omega
      omega
  refine ⟨h0, h2, ?_⟩
  have h3 : (2 : Int) ^ (8 * c) ≤ 2 ^ 32 := by
    have : (2 : Nat) ^ (8 * c) ≤ 2 ^ 32 := Nat.pow_le_pow_right (by decide) (by omega)
    exact_mod_cast this
  have h4 : (2 : Int) ^ 32 = 4294967296 := by decide
  omega
theorem wrap8 {m j : Nat} {z : Int} (hj : j < 4) (hz : z = 8 * j) : Value.int .u8 (IntKind.u8.wrap ((m : Int) / 2 ^ (min z.toNat IntKind.u32.bits))) = .int .u8 ((m / 256 ^ j % 256 : Nat) : Int) := by
  have e : (min z.toNat IntKind.u32.bits) = 8 * j := by
    have : IntKind.u32.bits = 32 := rfl
    omega
  rw [e, IntKind.wrap_u8]
  have e2 : (2 : Int) ^ (8 * j) = ((256 ^ j : Nat) : Int) := by
    rw [show (256 : Nat) ^ j = 2 ^ (8 * j) from (Nat.pow_mul 2 8 j).symm, Int.natCast_pow]
    rfl
  rw [e2, ← Int.natCast_ediv]
  congr 1
theorem be_one {m j : Nat} (h : 1 ≤ j) : be m j = bytesL [((m / 256 ^ (j - 1) % 256 : Nat) : Int)] ++ be m (j - 1) := by
  obtain ⟨i, rfl⟩ : ∃ i, j = i + 1 := ⟨j - 1, by omega⟩
  rfl
theorem bts_snoc (q : ByteArray) (v : Nat) (h : v < 256) : bts q ++ [.int .u8 (v : Int)] = bts (q ++ bytesL [(v : Int)]) := by
  rw [bts_append, bts_bytesL _ (by simp; omega)]
  rfl
theorem size_snoc (q : ByteArray) (v : Int) : q.size + 1 = (q ++ bytesL [v]).size := by rw [ByteArray.size_append, bytesL_size]; rfl
theorem app_nil (q : ByteArray) : q ++ bytesL [] = q := by
  show q ++ ByteArray.empty = q
  simp
theorem put_bad (p : Nat) (s : ByteArray) (m w : Int) : FSpec Tryz.prog 65 #[.pointer (some (ad p 0)), .int .i64 m, .int .i64 w] (WrP p s true) (fun _ : Unit => True) (fun _ => .tuple #[]) (fun _ => WrP p s true) := by
  refine en Tryz.func65 r fun σ F=>?_
  refine J_ex fun x => ?_
  refine J_eq _ (sep_assoc _ _ _) ?_
  refine js<|sa r ?_
  first | refine lv (opv_eql r r) r ?_ | refine lv (opv_eqlS r r) r ?_ | refine lv (opv_eqlNil r r) r ?_ | refine lv (opv_eqlB r r) r ?_
  refine ea r<|go r<|ea r<|go r<|ea r<|go r ?_
  first | refine fz r ?_ | refine fy r ?_
  refine go r<|ld r r ?_
  first | refine ea r ?_ | refine lv (opv_pick r r r) r ?_
  refine nt r<|jr<|kd ?_
  exact K_ret0 rfl () trivial rfl (Ent.trans Ent.take (WrP.fold x))
theorem put_unfit (p : Nat) (s : ByteArray) (m : Int) (c : Nat) (hc : 1 ≤ c ∧ c ≤ 4) (hm : -9223372036854775808 ≤ m ∧ m ≤ 9223372036854775807) (h : ¬ fitB m (8 * c)) : FSpec Tryz.prog 65 #[.pointer (some (ad p 0)), .int .i64 m, .int .i64 (8 * c : Nat)] (WrP p s false) (fun _ : Unit => True) (fun _ => .tuple #[]) (fun _ => WrP p s true) := by
  refine en Tryz.func65 r fun σ F=>?_
  refine J_ex fun x => ?_
  refine J_eq _ (sep_assoc _ _ _) ?_
  refine js<|sa r ?_
  first | refine lv (opv_eql r r) r ?_ | refine lv (opv_eqlS r r) r ?_ | refine lv (opv_eqlNil r r) r ?_ | refine lv (opv_eqlB r r) r ?_
  refine ea r<|go r<|ea r<|go r<|ea r<|go r ?_
  first | refine fz r ?_ | refine fy r ?_
  refine go r<|ld r r ?_
  first | refine ea r ?_ | refine lv (opv_pick r r r) r ?_
  refine nf r<|sk<|js<|sr<|ec r<|cy (bfits_spec m (8 * c : Nat) (by omega) hm) r fun _=>L_emp<|lv ((opv_notD r).bool_t h) r<|ea r ?_
  first | refine fz r ?_ | refine fy r ?_
  refine lx r (opx_store r r r (by simp [Value.oneCell'])) fun _ _=>nr<|eb r ?_
  first | refine fz r ?_ | refine fy r ?_
  refine ld r r<|nt r<|jr<|kd ?_
  exact K_ret0 rfl () trivial rfl (Ent.trans Ent.take (WrP.fold x))
theorem put_fit (p : Nat) (s : ByteArray) (m c : Nat) (hc : 1 ≤ c ∧ c ≤ 4) (h : fitB m (8 * c)) (hs : s.size ≤ 1099511627776) : FSpec Tryz.prog 65 #[.pointer (some (ad p 0)), .int .i64 m, .int .i64 (8 * c : Nat)] (WrP p s false) (fun _ : Unit => True) (fun _ => .tuple #[]) (fun _ => WrP p (s ++ be m c) false) := by
  have hf := fit_lt h hc.2
  refine en Tryz.func65 r fun σ F=>?_
  refine J_ex fun x => ?_
  refine J_eq _ (sep_assoc _ _ _) ?_
  refine js<|sa r ?_
  first | refine lv (opv_eql r r) r ?_ | refine lv (opv_eqlS r r) r ?_ | refine lv (opv_eqlNil r r) r ?_ | refine lv (opv_eqlB r r) r ?_
  refine ea r<|go r<|ea r<|go r<|ea r<|go r ?_
  first | refine fz r ?_ | refine fy r ?_
  refine go r<|ld r r ?_
  first | refine ea r ?_ | refine lv (opv_pick r r r) r ?_
  refine nf r<|sk<|js<|sr<|ec r<|cy (bfits_spec m (8 * c : Nat) (by omega) (by omega)) r fun _=>L_emp<|lv ((opv_notD r).bool_f (fun h1 => h1 h)) r<|ea r ?_
  first | refine fz r ?_ | refine fy r ?_
  refine lx r (opx_store r r r (by simp [Value.oneCell'])) fun _ _=>nr<|eb r ?_
  first | refine fz r ?_ | refine fy r ?_
  refine ld r r<|nf r<|sk<|sa r ?_
  first | refine lv (opv_sub64 r r (by omega)) r ?_ | refine lv (opv_sub r r) r ?_
  refine an r<|jb ?_
  refine J_loop (X := Nat × Int × ByteArray × (Option Addr × Nat)) (fun y => [(0, .pointer (some (ad p 0))), (1, .int .i64 m), (6, .int .i64 y.2.1)]) (fun y => (sep (cel p [.slice y.2.2.2.1 (ByteArray.size y.2.2.1) y.2.2.2.2, .bool false] 84) (sep (Own 5 1 (.slice y.2.2.2.1 (ByteArray.size y.2.2.1) y.2.2.2.2) (ByteArray.size y.2.2.1) (bts y.2.2.1)) (F)))) (fun y => (y.1 ≤ c ∧ y.2.1 = ((8 * y.1 : Nat) : Int) - 8) ∧ y.2.2.1 ++ be m y.1 = s ++ be m c) (fun y => y.1) ((c, ((8 * c : Nat) : Int) - 8, s, x)) ⟨⟨Nat.le_refl _, rfl⟩, rfl⟩ ⟨rfl, rfl, rfl, trivial⟩ (Ent.refl _) (fun y hy => ?_)
  obtain ⟨⟨hk, hz⟩, hy⟩ := hy
  have hsz := congrArg ByteArray.size hy
  rw [ByteArray.size_append, ByteArray.size_append, be_size, be_size] at hsz
  refine js<|sa r<|lv (opv_geq r r) r<|nk ?_
  refine J_cond rfl (fun h1 => ?_) (fun h1 => ?_)
  · refine sk<|js<|jb<|jg<|ec r ?_
    first | refine fz r ?_ | refine fy r ?_
    refine ld r r<|ea r ?_
    first | refine lv (opv_convW r (Go.IntWalk.u32_in _ (by omega))) r ?_ | refine lv (opv_convert r) r ?_
    refine ea r ?_
    first | refine lv (opv_convW r (Go.IntWalk.u64_in _ (by omega))) r ?_ | refine lv (opv_convert r) r ?_
    first | refine lv (opv_shrP r r (by omega)) r ?_ | refine lv (opv_shr r r (by omega)) r ?_
    refine lv ((opv_convert r).as (wrap8 (j := y.1 - 1) (by omega) (by omega))) r<|lx r (opx_buildSlice1 (m := 1) r r (by omega) (by omega) r) fun b43 _=>lx r (opx_append (m := 1) (B := 1) r r (Src.lit) r (by omega) r (by simp [Value.oneCell']) (by unfold maxLen; omega) (by omega) r) fun y44 _=>ea r ?_
    first | refine fz r ?_ | refine fy r ?_
    refine lx r (opx_store r r r (by simp [Value.oneCell'])) fun _ _=>ln<|kb<|kt<|jg<|ea r ?_
    first | refine lv (opv_sub64 r r (by omega)) r ?_ | refine lv (opv_sub r r) r ?_
    refine ea r<|ln ?_
    have hv : (m / 256 ^ (y.1 - 1) % 256) < 256 := Nat.mod_lt _ (by decide)
    rw [bts_snoc y.2.2.1 (m / 256 ^ (y.1 - 1) % 256) hv, size_snoc y.2.2.1 (((m / 256 ^ (y.1 - 1) % 256) : Nat) : Int)]
    exact K_loop ((y.1 - 1, y.2.1 - 8, y.2.2.1 ++ bytesL [(((m / 256 ^ (y.1 - 1) % 256) : Nat) : Int)], y44)) ⟨⟨by show y.1 - 1 ≤ c; omega, by show y.2.1 - 8 = _; omega⟩, by show y.2.2.1 ++ bytesL [(((m / 256 ^ (y.1 - 1) % 256) : Nat) : Int)] ++ be m (y.1 - 1) = _; rw [ByteArray.append_assoc, ← be_one (by omega)]; exact hy⟩ (by show y.1 - 1 < y.1; omega) ⟨rfl, rfl, rfl, trivial⟩ Ent.take
  · refine J_exit ?_
    refine ke<|ke<|kh ?_
    have h0 : y.1 = 0 := by omega
    rw [h0] at hy
    rw [be, app_nil] at hy
    rw [← hy]
    exact K_end0 rfl () trivial rfl (Ent.trans Ent.take (WrP.fold y.2.2.2))
end Go.Proofs.YtpkcniedaabpoaaGreat
namespace Go.Proofs.YtpkcniedaabpoaaGreat
open Go.SLA
set_option maxRecDepth 100000
attribute [local irreducible] J L K QL Rg FSpec OpV OpX Rd Back
/-- What one number more makes of a writer. -/
def putS (s : ByteArray) (bad : Bool) (m : Int) (c : Nat) : ByteArray × Bool := if bad = true then (s, true) else if fitB m (8 * c) then (s ++ be m.toNat c, false) else (s, true)
theorem put_any (p : Nat) (s : ByteArray) (bad : Bool) (m : Int) (c : Nat) (hc : 1 ≤ c ∧ c ≤ 4) (hm : -9223372036854775808 ≤ m ∧ m ≤ 9223372036854775807) (hs : s.size ≤ 1099511627776) : FSpec Tryz.prog 65 #[.pointer (some (ad p 0)), .int .i64 m, .int .i64 (8 * c : Nat)] (WrP p s bad) (fun _ : Unit => True) (fun _ => .tuple #[]) (fun _ => WrP p (putS s bad m c).1 (putS s bad m c).2) := by
  unfold putS
  cases bad with
  | true =>
    rw [if_pos rfl]
    exact put_bad p s m _
  | false =>
    rw [if_neg (by decide)]
    by_cases h : fitB m (8 * c)
    · rw [if_pos h]
      obtain ⟨k, rfl⟩ : ∃ k : Nat, m = k := ⟨m.toNat, by have := h.1; omega⟩
      exact put_fit p s k c hc h hs
    · rw [if_neg h]
      exact put_unfit p s m c hc hm h
theorem U8_spec (p : Nat) (s : ByteArray) (bad : Bool) (m : Int) (hm : -9223372036854775808 ≤ m ∧ m ≤ 9223372036854775807) (hs : s.size ≤ 1099511627776) : FSpec Tryz.prog 31 #[.pointer (some (ad p 0)), .int .i64 m] (WrP p s bad) (fun _ : Unit => True) (fun _ => .tuple #[]) (fun _ => WrP p (putS s bad m 1).1 (putS s bad m 1).2) := by
  refine en Tryz.func31 r fun σ F=>jg<|eb r<|cy (put_any p s bad m 1 (by decide) hm hs) r fun _=>ln ?_
  exact K_end0 rfl () trivial rfl Ent.take
theorem U16_spec (p : Nat) (s : ByteArray) (bad : Bool) (m : Int) (hm : -9223372036854775808 ≤ m ∧ m ≤ 9223372036854775807) (hs : s.size ≤ 1099511627776) : FSpec Tryz.prog 24 #[.pointer (some (ad p 0)), .int .i64 m] (WrP p s bad) (fun _ : Unit => True) (fun _ => .tuple #[]) (fun _ => WrP p (putS s bad m 2).1 (putS s bad m 2).2) := by
  refine en Tryz.func24 r fun σ F=>jg<|eb r<|cy (put_any p s bad m 2 (by decide) hm hs) r fun _=>ln ?_
  exact K_end0 rfl () trivial rfl Ent.take
theorem Bytes_bad (p : Nat) (s : ByteArray) : FSpec Tryz.prog 25 #[.pointer (some (ad p 0))] (WrP p s true) (fun _ : Unit => True) (fun _ => .tuple #[.string ByteArray.empty, .int .i64 1]) (fun _ => WrP p s true) := by
  refine en Tryz.func25 r fun σ F=>?_
  refine J_ex fun x => ?_
  refine J_eq _ (sep_assoc _ _ _) ?_
  refine sb r<|nj<|jb<|sa r ?_
  first | refine lv (opv_eql r r) r ?_ | refine lv (opv_eqlS r r) r ?_ | refine lv (opv_eqlNil r r) r ?_ | refine lv (opv_eqlB r r) r ?_
  refine an r<|cf r<|sb r ?_
  first | refine fz r ?_ | refine fy r ?_
  refine ld r r<|an r<|ct r<|sb r<|nk<|jr<|kq<|kd ?_
  exact K_ret2 rfl rfl rfl () trivial rfl (WrP.fold x)
theorem Bytes_ok (p : Nat) (s : ByteArray) : FSpec Tryz.prog 25 #[.pointer (some (ad p 0))] (WrP p s false) (fun _ : Unit => True) (fun _ => .tuple #[.string s, .int .i64 0]) (fun _ => WrP p s false) := by
  refine en Tryz.func25 r fun σ F=>?_
  refine J_ex fun x => ?_
  refine J_eq _ (sep_assoc _ _ _) ?_
  refine sb r<|nj<|jb<|sa r ?_
  first | refine lv (opv_eql r r) r ?_ | refine lv (opv_eqlS r r) r ?_ | refine lv (opv_eqlNil r r) r ?_ | refine lv (opv_eqlB r r) r ?_
  refine an r<|cf r<|sb r ?_
  first | refine fz r ?_ | refine fy r ?_
  refine ld r r<|an r<|cf r<|skb<|sb r ?_
  first | refine fz r ?_ | refine fy r ?_
  refine ld r r<|lv (opv_b2sO (s := s) r r) r<|eb r<|nk<|jr ?_
  exact K_ret2 rfl rfl rfl () trivial rfl (WrP.fold x)
def encZ (v : Int) : List Value := [.int .i64 v]
/-- What widths come to; none: they may not be. -/
def sumGo : Int → List Int → Option Int
  | n, [] => some n
  | n, x :: l => if x < 1 ∨ 32 < x ∨ 32 < n then none else sumGo (n + x) l
def sumW (l : List Int) : Int := match sumGo 0 l with
  | some n => if n = 8 ∨ n = 16 ∨ n = 32 then n else 0
  | none => 0
theorem sumGo_drop {l : List Int} {n x : Int} {k : Nat} (hx : l[k]? = some x) : sumGo n (l.drop k) = if x < 1 ∨ 32 < x ∨ 32 < n then none else sumGo (n + x) (l.drop (k + 1)) := by
  have hk : k < l.length := by
    rcases Nat.lt_or_ge k l.length with h | h
    · exact h
    · rw [List.getElem?_eq_none h] at hx; cases hx
  rw [List.drop_eq_getElem_cons hk]
  rw [List.getElem?_eq_getElem hk] at hx
  simp only [Option.some.injEq] at hx
  rw [hx, sumGo]
theorem rvz {a b : Int} (h : b = a) : Value.int .i64 a = .int .i64 b := by rw [h]
theorem sum_spec (R0 : HProp) (A : Option Addr) (c : Nat) (ws : List Int) (hR : RdS R0 encZ 1 A ws) (hn : ws.length ≤ 9223372036854775807) (hw : ∀ v ∈ ws, -9223372036854775808 ≤ v ∧ v ≤ 9223372036854775807) : FSpec Tryz.prog 66 #[.slice A ws.length c] (R0) (fun _ : Unit => True) (fun _ => .int .i64 (sumW ws)) (fun _ => R0) := by
  refine en Tryz.func66 r fun σ F=>san r<|san r<|js<|sa r ?_
  first | refine ll r ?_ | refine lv (opv_lenS r) r ?_
  refine an r<|jb ?_
  refine J_loop (X := Nat × Int) (fun y => [(3, .int .i64 y.2), (6, .slice A ws.length c), (7, .int .i64 ws.length), (8, .int .i64 y.1)]) (fun y => (sep (R0) (F))) (fun y => (y.1 ≤ ws.length ∧ -64 ≤ y.2 ∧ y.2 ≤ 64) ∧ sumGo 0 ws = sumGo y.2 (ws.drop y.1)) (fun y => ws.length - y.1) ((0, 0)) ⟨⟨Nat.zero_le _, by decide, by decide⟩, rfl⟩ ⟨rfl, rfl, rfl, rfl, trivial⟩ (Ent.refl _) (fun y hy => ?_)
  obtain ⟨⟨hk, hb1, hb2⟩, hy⟩ := hy
  refine sr<|lv (opv_lss r r) r<|nj ?_
  refine J_cond rfl (fun h1 => ?_) (fun h1 => ?_)
  · have hkl : y.1 < ws.length := by omega
    obtain ⟨v, hv⟩ : ∃ v, ws[y.1]? = some v := ⟨_, List.getElem?_eq_getElem hkl⟩
    obtain ⟨b, o, rfl⟩ := hR.nonnil y.1 hkl
    have hd := sumGo_drop (n := y.2) hv
    refine sk<|js<|jb<|sr ?_
    first | refine lv (opv_indexAddr r r (by omega)) r ?_ | refine lv (opv_indexAddrA r r (by omega)) r ?_
    refine lv (opv_load r (Rd.of_take (S := R0) (hR.rd b o r y.1 v 0 _ hv r))) r<|an r<|js<|sa r<|lv (opv_lss r r) r<|ea r ?_
    refine L_gf rfl rfl (fun h2 => ?_) (fun h2 => ?_) (fun _ h => by cases h; rfl)
    · refine ea r<|L_gf_on h2 r r<|lv (opv_gtr r r) r<|lv (opv_pick_f r h2 r) r<|ea r ?_
      refine L_gf rfl rfl (fun h3 => ?_) (fun h3 => ?_) (fun _ h => by cases h; rfl)
      · refine ea r<|L_gf_on h3 r r<|lv (opv_gtr r r) r<|lv (opv_pick_f r h3 r) r<|nk ?_
        refine J_cond rfl (fun h4 => ?_) (fun h4 => ?_)
        · refine san r<|jr<|kd<|kq<|kd<|kd<|kq<|kd ?_
          rw [if_pos (by omega)] at hd
          exact K_ret1 rfl rfl () trivial (rvz (by rw [sumW, hy, hd])) (Ent.refl _)
        · refine sk<|jg<|eb r ?_
          first | refine lv (opv_add64 r r (by omega)) r ?_ | refine lv (opv_addS r r (by omega)) r ?_ | refine lv (opv_add r r) r ?_
          refine ea r<|ln<|kb<|kt<|jg ?_
          first | refine lv (opv_add64 r r (by omega)) r ?_ | refine lv (opv_addS r r (by omega)) r ?_ | refine lv (opv_add r r) r ?_
          refine ea r<|ln ?_
          rw [if_neg (by omega)] at hd
          exact K_loop ((y.1 + 1, y.2 + v)) ⟨⟨by show y.1 + 1 ≤ _; omega, by show -64 ≤ y.2 + v; omega, by show y.2 + v ≤ 64; omega⟩, by rw [hy, hd]⟩ (by show _ - (y.1 + 1) < _; omega) ⟨rfl, rfl, rfl, rfl, trivial⟩ (Ent.refl _)
      · refine L_gf_off h3 rfl rfl ?_ (fun _ h => by cases h; rfl)
        refine lv (opv_pick_t r h3 r) r<|nt r<|san r<|jr<|kd<|kq<|kd<|kd<|kq<|kd ?_
        rw [if_pos (by omega)] at hd
        exact K_ret1 rfl rfl () trivial (rvz (by rw [sumW, hy, hd])) (Ent.refl _)
    · refine L_gf_off h2 rfl rfl ?_ (fun _ h => by cases h; rfl)
      refine lv (opv_pick_t r h2 r) r<|ea r ?_
      refine L_gskip rfl rfl rfl ?_ (fun _ h => by cases h; rfl)
      refine L_gskip rfl rfl rfl ?_ (fun _ h => by cases h; rfl)
      first | refine ea r ?_ | refine lv (opv_pick r r r) r ?_
      refine nt r<|san r<|jr<|kd<|kq<|kd<|kd<|kq<|kd ?_
      rw [if_pos (by omega)] at hd
      exact K_ret1 rfl rfl () trivial (rvz (by rw [sumW, hy, hd])) (Ent.refl _)
  · refine J_exit ?_
    refine ke<|ke<|kh<|kt<|js<|san r<|jb<|js<|sr ?_
    first | refine lv (opv_eql r r) r ?_ | refine lv (opv_eqlS r r) r ?_ | refine lv (opv_eqlNil r r) r ?_ | refine lv (opv_eqlB r r) r ?_
    refine an r ?_
    refine J_cond rfl (fun h5 => ?_) (fun h5 => ?_)
    · refine sk ?_
      refine J_cond rfl (fun h6 => ?_) (fun h6 => ?_)
      · refine sb r<|nk<|jr<|kq<|kd ?_
        have he : y.1 = ws.length := by omega
        rw [he, List.drop_length] at hy
        first | (exfalso; omega) | exact K_ret1 rfl rfl () trivial (rvz (by rw [sumW, hy, sumGo]; dsimp only; first | rw [if_pos (by omega)] | rw [if_neg (by omega)])) (Ent.refl _)
      · refine skb<|san r<|jr ?_
        have he : y.1 = ws.length := by omega
        rw [he, List.drop_length] at hy
        first | (exfalso; omega) | exact K_ret1 rfl rfl () trivial (rvz (by rw [sumW, hy, sumGo]; dsimp only; first | rw [if_pos (by omega)] | rw [if_neg (by omega)])) (Ent.refl _)
    · refine sr ?_
      first | refine lv (opv_eql r r) r ?_ | refine lv (opv_eqlS r r) r ?_ | refine lv (opv_eqlNil r r) r ?_ | refine lv (opv_eqlB r r) r ?_
      refine an r ?_
      refine J_cond rfl (fun h7 => ?_) (fun h7 => ?_)
      · refine sk ?_
        refine J_cond rfl (fun h8 => ?_) (fun h8 => ?_)
        · refine sb r<|nk<|jr<|kq<|kd ?_
          have he : y.1 = ws.length := by omega
          rw [he, List.drop_length] at hy
          first | (exfalso; omega) | exact K_ret1 rfl rfl () trivial (rvz (by rw [sumW, hy, sumGo]; dsimp only; first | rw [if_pos (by omega)] | rw [if_neg (by omega)])) (Ent.refl _)
        · refine skb<|san r<|jr ?_
          have he : y.1 = ws.length := by omega
          rw [he, List.drop_length] at hy
          first | (exfalso; omega) | exact K_ret1 rfl rfl () trivial (rvz (by rw [sumW, hy, sumGo]; dsimp only; first | rw [if_pos (by omega)] | rw [if_neg (by omega)])) (Ent.refl _)
      · refine jg ?_
        first | refine lv (opv_eql r r) r ?_ | refine lv (opv_eqlS r r) r ?_ | refine lv (opv_eqlNil r r) r ?_ | refine lv (opv_eqlB r r) r ?_
        refine an r ?_
        refine J_cond rfl (fun h9 => ?_) (fun h9 => ?_)
        · refine sb r<|nk<|jr<|kq<|kd ?_
          have he : y.1 = ws.length := by omega
          rw [he, List.drop_length] at hy
          first | (exfalso; omega) | exact K_ret1 rfl rfl () trivial (rvz (by rw [sumW, hy, sumGo]; dsimp only; first | rw [if_pos (by omega)] | rw [if_neg (by omega)])) (Ent.refl _)
        · refine skb<|san r<|jr ?_
          have he : y.1 = ws.length := by omega
          rw [he, List.drop_length] at hy
          first | (exfalso; omega) | exact K_ret1 rfl rfl () trivial (rvz (by rw [sumW, hy, sumGo]; dsimp only; first | rw [if_pos (by omega)] | rw [if_neg (by omega)])) (Ent.refl _)
end Go.Proofs.YtpkcniedaabpoaaGreat
namespace Go.Proofs.YtpkcniedaabpoaaGreat
open Go.SLA
set_option maxRecDepth 100000
attribute [local irreducible] J L K QL Rg FSpec OpV OpX Rd Back
/-- Numbers behind each other, each so many bits wide. -/
def pack : Nat → List Int → List Int → Option Nat
  | n, w :: ws, l :: ls => if fitB l w.toNat then pack (n * 2 ^ w.toNat + l.toNat) ws ls else none
  | n, _, _ => some n
theorem pack_drop {ws ls : List Int} {n k : Nat} {v u : Int} (hv : ws[k]? = some v) (hu : ls[k]? = some u) : pack n (ws.drop k) (ls.drop k) = if fitB u v.toNat then pack (n * 2 ^ v.toNat + u.toNat) (ws.drop (k + 1)) (ls.drop (k + 1)) else none := by
  have h1 : k < ws.length := by
    rcases Nat.lt_or_ge k ws.length with h | h
    · exact h
    · rw [List.getElem?_eq_none h] at hv; cases hv
  have h2 : k < ls.length := by
    rcases Nat.lt_or_ge k ls.length with h | h
    · exact h
    · rw [List.getElem?_eq_none h] at hu; cases hu
  rw [List.drop_eq_getElem_cons h1, List.drop_eq_getElem_cons h2]
  rw [List.getElem?_eq_getElem h1] at hv
  rw [List.getElem?_eq_getElem h2] at hu
  simp only [Option.some.injEq] at hv hu
  rw [hv, hu, pack]
/-- What numbers of bits make of a writer. -/
def bitsS (s : ByteArray) (bad : Bool) (ws ls : List Int) : ByteArray × Bool :=
  if bad = true then (s, true) else if sumW ws = 0 ∨ ws.length ≠ ls.length then (s, true) else match pack 0 ws ls with
  | none => (s, true)
  | some n => putS s false n ((sumW ws).toNat / 8)
theorem sumGo_le : ∀ {l : List Int} {t a : Int}, sumGo t l = some a → t ≤ a
  | [], t, a, h => by simp only [sumGo, Option.some.injEq] at h; omega
  | x :: l, t, a, h => by
    rw [sumGo] at h
    split at h
    · cases h
    · have := sumGo_le h
      omega
theorem sumW_some {ws : List Int} (h : sumW ws ≠ 0) : ∃ c : Nat, 1 ≤ c ∧ c ≤ 4 ∧ sumW ws = ((8 * c : Nat) : Int) ∧ sumGo 0 ws = some ((8 * c : Nat) : Int) := by
  unfold sumW at *
  cases hs : sumGo 0 ws with
  | none => rw [hs] at h; exact absurd rfl h
  | some a =>
    rw [hs] at h
    dsimp only at h ⊢
    split at h
    · rename_i h8
      rw [if_pos h8]
      rcases h8 with rfl | rfl | rfl
      · exact ⟨1, by decide, by decide, rfl, rfl⟩
      · exact ⟨2, by decide, by decide, rfl, rfl⟩
      · exact ⟨4, by decide, by decide, rfl, rfl⟩
    · exact absurd rfl h
theorem fit_lt' {m : Int} {w : Nat} (h : fitB m w) (hw : w ≤ 64) : ∃ k : Nat, m = k ∧ k < 2 ^ w := by
  obtain ⟨h0, h1⟩ := h
  obtain ⟨k, rfl⟩ : ∃ k : Nat, m = k := ⟨m.toNat, by omega⟩
  refine ⟨k, rfl, ?_⟩
  rw [Int.toNat_natCast, Nat.min_eq_left hw] at h1
  have e : (2 : Int) ^ w = ((2 ^ w : Nat) : Int) := by rw [Int.natCast_pow]; rfl
  rw [e, ← Int.natCast_ediv] at h1
  have h2 : k / 2 ^ w = 0 := by omega
  rcases Nat.lt_or_ge k (2 ^ w) with h | h
  · exact h
  · have := Nat.div_pos h (Nat.pow_pos (by decide))
    omega
theorem shl_n {n : Nat} {v : Int} (hv : v.toNat ≤ 64) (h : n * 2 ^ v.toNat < 18446744073709551616) : Value.int .u64 (IntKind.u64.wrap ((n : Int) * 2 ^ (min v.toNat IntKind.u64.bits))) = .int .u64 ((n * 2 ^ v.toNat : Nat) : Int) := by
  have e : min v.toNat IntKind.u64.bits = v.toNat := by have : IntKind.u64.bits = 64 := rfl; omega
  have e2 : (2 : Int) ^ v.toNat = ((2 ^ v.toNat : Nat) : Int) := by rw [Int.natCast_pow]; rfl
  rw [e, e2, ← Int.natCast_mul, Go.IntWalk.u64_in _ (by omega)]
theorem or_n {n w u : Nat} (hu : u < 2 ^ w) (h : n * 2 ^ w + u < 18446744073709551616) : Value.int .u64 (IntKind.u64.wrap (((BitVec.ofInt IntKind.u64.bits ((n * 2 ^ w : Nat) : Int) ||| BitVec.ofInt IntKind.u64.bits (u : Int)).toNat : Nat) : Int)) = .int .u64 ((n * 2 ^ w + u : Nat) : Int) := by
  show Value.int .u64 (IntKind.u64.wrap (((BitVec.ofInt 64 ((n * 2 ^ w : Nat) : Int) ||| BitVec.ofInt 64 (u : Int)).toNat : Nat) : Int)) = _
  rw [BitVec.ofInt_natCast, BitVec.ofInt_natCast, BitVec.toNat_or, BitVec.toNat_ofNat, BitVec.toNat_ofNat, Nat.mod_eq_of_lt (by omega), Nat.mod_eq_of_lt (by omega), ← Nat.shiftLeft_eq, ← Nat.shiftLeft_add_eq_or_of_lt hu, Nat.shiftLeft_eq, Go.IntWalk.u64_in _ (by omega)]
theorem grow {n t w u : Nat} (hn : n < 2 ^ t) (hu : u < 2 ^ w) : n * 2 ^ w + u < 2 ^ (t + w) := by
  have : (n + 1) * 2 ^ w ≤ 2 ^ t * 2 ^ w := Nat.mul_le_mul_right _ hn
  rw [Nat.pow_add]
  rw [Nat.add_mul] at this
  omega
theorem Bits_bad (p : Nat) (s : ByteArray) (u v : Value) : FSpec Tryz.prog 32 #[.pointer (some (ad p 0)), u, v] (WrP p s true) (fun _ : Unit => True) (fun _ => .tuple #[]) (fun _ => WrP p s true) := by
  refine en Tryz.func32 r fun σ F=>?_
  refine J_ex fun x => ?_
  refine J_eq _ (sep_assoc _ _ _) ?_
  refine js<|sa r ?_
  first | refine lv (opv_eql r r) r ?_ | refine lv (opv_eqlS r r) r ?_ | refine lv (opv_eqlNil r r) r ?_ | refine lv (opv_eqlB r r) r ?_
  refine ea r<|go r<|ea r<|go r<|ea r<|go r ?_
  first | refine fz r ?_ | refine fy r ?_
  refine go r<|ld r r ?_
  first | refine ea r ?_ | refine lv (opv_pick r r r) r ?_
  refine nt r<|jr<|kd ?_
  exact K_ret0 rfl () trivial rfl (WrP.fold x)
theorem Bits_go (p : Nat) (s : ByteArray) (R0 : HProp) (A B : Option Addr) (c1 c2 : Nat) (ws ls : List Int) (hR : RdS R0 encZ 1 A ws) (hL : RdS R0 encZ 1 B ls) (hn : ws.length ≤ 1000000 ∧ ls.length ≤ 1000000) (hw : ∀ v ∈ ws, -9223372036854775808 ≤ v ∧ v ≤ 9223372036854775807) (hl : ∀ v ∈ ls, -9223372036854775808 ≤ v ∧ v ≤ 9223372036854775807) (hne : sumW ws ≠ 0) (hlen : ws.length = ls.length) (hs : s.size ≤ 1099511627776) : FSpec Tryz.prog 32 #[.pointer (some (ad p 0)), .slice A ws.length c1, .slice B ls.length c2] ((sep (WrP p s false) (R0))) (fun _ : Unit => True) (fun _ => .tuple #[]) (fun _ => (sep (WrP p (bitsS s false ws ls).1 (bitsS s false ws ls).2) (R0))) := by
  obtain ⟨c, hc1, hc4, hcw, hcs⟩ := sumW_some hne
  refine en Tryz.func32 r fun σ F=>?_
  refine J_eq _ (sep_assoc _ _ _) ?_
  refine J_ex fun x => ?_
  refine J_eq _ (sep_assoc _ _ _) ?_
  refine js<|sa r ?_
  first | refine lv (opv_eql r r) r ?_ | refine lv (opv_eqlS r r) r ?_ | refine lv (opv_eqlNil r r) r ?_ | refine lv (opv_eqlB r r) r ?_
  refine ea r<|go r<|ea r<|go r<|ea r<|go r ?_
  first | refine fz r ?_ | refine fy r ?_
  refine go r<|ld r r ?_
  first | refine ea r ?_ | refine lv (opv_pick r r r) r ?_
  refine nf r<|sk<|sa r<|cy (sum_spec R0 A c1 ws hR (by omega) hw) r fun _=>?_
  rw [hcw]
  refine an r<|js<|sb r<|lv ((opv_eql r r).bool_f (by omega)) r<|ea r<|go r<|ea r<|go r ?_
  first | refine ll r ?_ | refine lv (opv_lenS r) r ?_
  refine go r<|ea r<|go r ?_
  first | refine ll r ?_ | refine lv (opv_lenS r) r ?_
  refine go r<|lv ((opv_neq r r).bool_f (by omega)) r ?_
  first | refine ea r ?_ | refine lv (opv_pick r r r) r ?_
  refine ea r ?_
  first | refine fz r ?_ | refine fy r ?_
  refine lx r (opx_store r r r (by simp [Value.oneCell'])) fun _ _=>nr<|eb r ?_
  first | refine fz r ?_ | refine fy r ?_
  refine ld r r<|nf r<|sk<|san r<|js<|sa r ?_
  first | refine ll r ?_ | refine lv (opv_lenS r) r ?_
  refine an r<|jb ?_
  refine J_loop (X := Nat × Nat × Nat) (fun y => [(0, .pointer (some (ad p 0))), (1, .slice A ws.length c1), (6, .int .i64 (8 * c : Nat)), (7, .int .u64 y.2.1), (36, .slice B ls.length c2), (37, .int .i64 ls.length), (38, .int .i64 y.1)]) (fun y => (sep (cel p [.slice x.1 (ByteArray.size s) x.2, .bool false] 84) (sep (Own 5 1 (.slice x.1 (ByteArray.size s) x.2) (ByteArray.size s) (bts s)) (sep (R0) (F))))) (fun y => y.1 ≤ ls.length ∧ 8 * c ≤ 32 ∧ y.2.1 < 2 ^ y.2.2 ∧ pack 0 ws ls = pack y.2.1 (ws.drop y.1) (ls.drop y.1) ∧ sumGo (y.2.2 : Int) (ws.drop y.1) = some ((8 * c : Nat) : Int)) (fun y => ls.length - y.1) ((0, 0, 0)) ⟨Nat.zero_le _, by omega, by decide, rfl, hcs⟩ ⟨rfl, rfl, rfl, rfl, rfl, rfl, rfl, trivial⟩ Ent.take (fun y hy => ?_)
  obtain ⟨hk, hc32, hlt, hpk, hsum⟩ := hy
  have ht := sumGo_le hsum
  refine sr<|lv (opv_lss r r) r<|nj ?_
  refine J_cond rfl (fun h1 => ?_) (fun h1 => ?_)
  · have hkl : y.1 < ls.length := by omega
    obtain ⟨v, hv⟩ : ∃ v, ws[y.1]? = some v := ⟨_, List.getElem?_eq_getElem (show y.1 < ws.length by omega)⟩
    obtain ⟨u, hu⟩ : ∃ u, ls[y.1]? = some u := ⟨_, List.getElem?_eq_getElem hkl⟩
    obtain ⟨b, o, rfl⟩ := hR.nonnil y.1 (by omega)
    obtain ⟨b2, o2, rfl⟩ := hL.nonnil y.1 hkl
    have hpd := pack_drop (n := y.2.1) hv hu
    have hsd := sumGo_drop (n := (y.2.2 : Int)) hv
    have hwv := hw v (List.mem_of_getElem? hv)
    have hlu := hl u (List.mem_of_getElem? hu)
    have hv1 : 1 ≤ v ∧ v ≤ 32 := by (rw [hsum] at hsd; split at hsd; cases hsd; omega)
    rw [if_neg (by omega), hsum] at hsd
    have htv := sumGo_le hsd.symm
    obtain ⟨w, rfl⟩ : ∃ w : Nat, v = w := ⟨v.toNat, by omega⟩
    refine sk<|js<|jb<|sa r ?_
    first | refine lv (opv_indexAddr r r (by omega)) r ?_ | refine lv (opv_indexAddrA r r (by omega)) r ?_
    refine lv (opv_load r (Rd.of_take (S := R0) (hL.rd b2 o2 r y.1 u 0 _ hu r))) r<|eb r<|nj<|sr<|ed r ?_
    first | refine lv (opv_indexAddr r r (by omega)) r ?_ | refine lv (opv_indexAddrA r r (by omega)) r ?_
    refine lv (opv_load r (Rd.of_take (S := R0) (hR.rd b o r y.1 (w : Int) 0 _ hv r))) r<|cy (bfits_spec u (w : Int) (by omega) hlu) r fun _=>L_emp ?_
    first | refine lv (opv_notD r) r ?_ | refine lv (opv_not r) r ?_
    refine ea r ?_
    first | refine fz r ?_ | refine fy r ?_
    refine lx r (opx_store r r r (by simp [Value.oneCell'])) fun _ _=>nr<|eb r ?_
    first | refine fz r ?_ | refine fy r ?_
    refine ld r r<|nk ?_
    refine J_cond rfl (fun h2 => ?_) (fun h2 => ?_)
    · rw [decide_eq_true h2]
      refine jr<|kd<|kq<|kd<|kd<|kq<|kd ?_
      rw [if_neg (show ¬ fitB u ((w : Int)).toNat from h2)] at hpd
      rw [show bitsS s false ws ls = (s, true) by unfold bitsS; rw [if_neg (by decide), if_neg (by omega), hpk, hpd]]
      exact K_ret0 rfl () trivial rfl (Ent.trans (Ent.take (Q := (sep (cel p [.slice x.1 (ByteArray.size s) x.2, .bool true] 84) (sep (Own 5 1 (.slice x.1 (ByteArray.size s) x.2) (ByteArray.size s) (bts s)) ((sep (R0) (F))))))) (Ent.trans (WrP.fold x) (Ent.of (sep_assoc _ _ _).symm)))
    · have hfit : fitB u w := Classical.not_not.1 h2
      obtain ⟨k, rfl, hk2⟩ := fit_lt' hfit (by omega)
      have hgr := grow hlt hk2
      have hp32 : 2 ^ (y.2.2 + w) ≤ 4294967296 := Nat.le_trans (Nat.pow_le_pow_right (by decide) (show y.2.2 + w ≤ 32 by omega)) (by decide)
      rw [show (↑w : Int).toNat = w from rfl, if_pos hfit] at hpd
      rw [decide_eq_false h2]
      refine sk<|jg<|ec r ?_
      first | refine lv (opv_indexAddr r r (by omega)) r ?_ | refine lv (opv_indexAddrA r r (by omega)) r ?_
      refine lv (opv_load r (Rd.of_take (S := R0) (hR.rd b o r y.1 (w : Int) 0 _ hv r))) r ?_
      first | refine lv (opv_convW r (Go.IntWalk.u64_in _ (by omega))) r ?_ | refine lv (opv_convert r) r ?_
      refine lv ((opv_shl r r (by omega)).as (shl_n (v := (w : Int)) (by show w ≤ 64; omega) (by show y.2.1 * 2 ^ w < _; omega))) r<|ea r ?_
      first | refine lv (opv_convW r (Go.IntWalk.u64_in _ (by omega))) r ?_ | refine lv (opv_convert r) r ?_
      refine lv ((opv_or r r).as (or_n hk2 (by omega))) r<|ea r<|ln<|kb<|kt<|jg ?_
      first | refine lv (opv_add64 r r (by omega)) r ?_ | refine lv (opv_addS r r (by omega)) r ?_ | refine lv (opv_add r r) r ?_
      refine ea r<|ln ?_
      exact K_loop ((y.1 + 1, y.2.1 * 2 ^ w + k, y.2.2 + w)) ⟨by show y.1 + 1 ≤ _; omega, by show 8 * c ≤ 32; omega, by show y.2.1 * 2 ^ w + k < 2 ^ (y.2.2 + w); exact hgr, by rw [hpk, hpd]; rfl, by rw [hsd]; rfl⟩ (by show _ - (y.1 + 1) < _; omega) ⟨rfl, rfl, rfl, rfl, rfl, rfl, rfl, trivial⟩ (by first | exact Ent.take | exact Ent.refl _)
  · have he : y.1 = ls.length := by omega
    have hp32 : 2 ^ y.2.2 ≤ 4294967296 := Nat.le_trans (Nat.pow_le_pow_right (by decide) (show y.2.2 ≤ 32 by omega)) (by decide)
    refine J_imp (sep (WrP p s false) ((sep (R0) (F)))) (WrP.fold x) ?_
    refine J_exit ?_
    refine ke<|ke<|kh<|kt<|jg<|eb r ?_
    first | refine lv (opv_convW r (Go.IntWalk.i64_in _ (by omega))) r ?_ | refine lv (opv_convert r) r ?_
    refine ea r<|cy (put_any p s false ((y.2.1 : Nat) : Int) c (by omega) (by omega) hs) r fun _=>ln ?_
    have e0 : pack 0 ws ls = some y.2.1 := by
      rw [hpk, he, List.drop_length, ← hlen, List.drop_length]
      rfl
    have e1 : bitsS s false ws ls = putS s false y.2.1 c := by
      unfold bitsS
      rw [if_neg (by decide), if_neg (by omega), e0, hcw]
      show putS s false y.2.1 ((8 * c) / 8) = _
      rw [Nat.mul_div_cancel_left _ (by decide)]
    rw [e1]
    exact K_end0 rfl () trivial rfl (Ent.trans Ent.take (Ent.of (sep_assoc _ _ _).symm))
end Go.Proofs.YtpkcniedaabpoaaGreat
namespace Go.Proofs.YtpkcniedaabpoaaGreat
open Go.SLA
set_option maxRecDepth 100000
attribute [local irreducible] J L K QL Rg FSpec OpV OpX Rd Back
theorem WrP_new {p : Nat} {F : HProp} : Ent (sep (cel p [.slice none 0 0, .bool false] 84) (F)) (sep (WrP p (bytesL []) false) (F)) :=
  Ent.trans (Ent.frame_left (Ent.trans (Ent.of (emp_sep _).symm) ((Own.nil 5 1).frame F)) _) (WrP.fold (s := bytesL []) (none, 0))
theorem RdS.lit {S R : HProp} {α : Type} {en : α → List Value} {m b : Nat} {te : TypeId} {xs : List α} {cells : List Value} [h : Look S b cells te R] (hc : cells = xs.flatMap en) (hm : ∀ x, (en x).length = m) : RdS S en m (some (ad b 0)) xs := by
  subst hc
  refine ⟨fun _ _ => ⟨b, 0, rfl⟩, fun b' o' e i x j u hi hj => ?_⟩
  simp only [Option.some.injEq, Addr.mk.injEq] at e
  obtain ⟨rfl, rfl, _⟩ := e
  have hjm : j < m := by
    rcases Nat.lt_or_ge j (en x).length with h | h
    · rw [← hm x]; exact h
    · rw [List.getElem?_eq_none h] at hj; cases hj
  refine Rd.look (l := xs.flatMap en) ?_
  rw [Nat.zero_add, flat_get hm xs i j x hi hjm, hj]
theorem encZ_len (x : Int) : (encZ x).length = 1 := rfl
theorem WText_ok (p : Nat) (s t : ByteArray) (hs : s.size ≤ 1099511627776) (ht : t.size ≤ 1099511627776) : FSpec Tryz.prog 27 #[.pointer (some (ad p 0)), .string t] (WrP p s false) (fun _ : Unit => True) (fun _ => .tuple #[]) (fun _ => WrP p (s ++ t) false) := by
  refine en Tryz.func27 r fun σ F=>?_
  refine J_ex fun x => ?_
  refine J_eq _ (sep_assoc _ _ _) ?_
  refine sa r ?_
  first | refine lv (opv_neq r r) r ?_ | refine lv (opv_neqS r r) r ?_ | refine lv (opv_neqNil r r) r ?_ | refine lv (opv_neqB r r) r ?_
  refine ea r<|go r<|ea r<|go r<|ea r<|go r ?_
  first | refine fz r ?_ | refine fy r ?_
  refine go r<|ld r r<|go r<|lv (opv_not r) r ?_
  first | refine ea r ?_ | refine lv (opv_pick r r r) r ?_
  refine nt r<|jg<|ec r ?_
  first | refine fz r ?_ | refine fy r ?_
  refine ld r r<|ea r<|lx r (opx_appendS r r r (by unfold maxLen; omega) (by omega) r) fun y19 _=>ea r ?_
  first | refine fz r ?_ | refine fy r ?_
  refine lx r (opx_store r r r (by simp [Value.oneCell'])) fun _ _=>ln ?_
  rw [← bts_append, ← ByteArray.size_append]
  exact K_end0 rfl () trivial rfl (Ent.trans Ent.take (WrP.fold y19))
theorem ones_le (s : ByteArray) : ones s ≤ 65535 := Nat.sub_le _ _
theorem putS_fit {s : ByteArray} {m : Int} {k c : Nat} (hm : m = k) (h : k / 2 ^ (8 * c) = 0) (hc : c ≤ 4) : putS s false m c = (s ++ be k c, false) := by
  subst hm
  have e : fitB (k : Int) (8 * c) := by
    refine ⟨by omega, ?_⟩
    rw [Int.toNat_natCast, Nat.min_eq_left (by omega)]
    have e2 : (2 : Int) ^ (8 * c) = ((2 ^ (8 * c) : Nat) : Int) := by rw [Int.natCast_pow]; rfl
    rw [e2, ← Int.natCast_ediv, h]
    rfl
  unfold putS
  rw [if_neg (by decide), if_pos e]
  rfl
theorem U16_ok (p : Nat) (s : ByteArray) (k : Nat) (hk : k ≤ 65535) (hs : s.size ≤ 1099511627776) : FSpec Tryz.prog 24 #[.pointer (some (ad p 0)), .int .i64 k] (WrP p s false) (fun _ : Unit => True) (fun _ => .tuple #[]) (fun _ => WrP p (s ++ be k 2) false) := by
  have := U16_spec p s false k (by omega) hs
  rwa [putS_fit rfl (by show k / 65536 = 0; omega) (by decide)] at this
theorem nil_app (s : ByteArray) : bytesL [] ++ s = s := by
  show ByteArray.empty ++ s = s
  simp
theorem fit16 {m : Int} : fitB m (8 * 2) ↔ 0 ≤ m ∧ m ≤ 65535 := by
  show (0 ≤ m ∧ m / 65536 = 0) ↔ _
  omega
theorem U16_n (p : Nat) (s : ByteArray) (m : Int) (hk : 0 ≤ m ∧ m ≤ 65535) (hs : s.size ≤ 1099511627776) : FSpec Tryz.prog 24 #[.pointer (some (ad p 0)), .int .i64 m] (WrP p s false) (fun _ : Unit => True) (fun _ => .tuple #[]) (fun _ => WrP p (s ++ be m.toNat 2) false) := by
  obtain ⟨k, rfl⟩ : ∃ k : Nat, m = k := ⟨m.toNat, by omega⟩
  exact U16_ok p s k (by omega) hs
theorem putS_size (s : ByteArray) (bad : Bool) (m : Int) (c : Nat) : (putS s bad m c).1.size ≤ s.size + c := by
  unfold putS
  split
  · dsimp only; omega
  · split
    · rw [ByteArray.size_append, be_size]; omega
    · dsimp only; omega
end Go.Proofs.YtpkcniedaabpoaaGreat
namespace Go.Proofs.YtpkcniedaabpoaaGreat
open Go.SLA
set_option maxRecDepth 100000
attribute [local irreducible] J L K QL Rg FSpec OpV OpX Rd Back
theorem Read_spec (s : ByteArray) : FSpec Tryz.prog 41 #[.string s] (emp) (fun p : Nat => True) (fun p => .pointer (some (ad p 0))) (fun p => cel p [.string s, .int .i64 0] 176) := by
  refine en Tryz.func41 r fun σ F=>J_emp<|san r<|sa r<|lv (opv_build r) r<|bx r fun p=>an r<|jr ?_
  exact K_ret1 rfl rfl p trivial rfl (Ent.refl _)
theorem Err_spec (p : Nat) (s : ByteArray) (e : Int) : FSpec Tryz.prog 55 #[.pointer (some (ad p 0))] (cel p [.string s, .int .i64 e] 176) (fun _ : Unit => True) (fun _ => .int .i64 e) (fun _ => cel p [.string s, .int .i64 e] 176) := by
  refine en Tryz.func55 r fun σ F=>san r<|js<|sa r ?_
  first | refine lv (opv_eql r r) r ?_ | refine lv (opv_eqlS r r) r ?_ | refine lv (opv_eqlNil r r) r ?_ | refine lv (opv_eqlB r r) r ?_
  refine nf r<|sk<|sb r ?_
  first | refine fz r ?_ | refine fy r ?_
  refine ld r r<|an r<|jr ?_
  exact K_ret1 rfl rfl () trivial (rfl) (Ent.refl _)
theorem Left_spec (p : Nat) (s : ByteArray) (e : Int) : FSpec Tryz.prog 45 #[.pointer (some (ad p 0))] (cel p [.string s, .int .i64 e] 176) (fun _ : Unit => True) (fun _ => .int .i64 s.size) (fun _ => cel p [.string s, .int .i64 e] 176) := by
  refine en Tryz.func45 r fun σ F=>san r<|js<|sa r ?_
  first | refine lv (opv_eql r r) r ?_ | refine lv (opv_eqlS r r) r ?_ | refine lv (opv_eqlNil r r) r ?_ | refine lv (opv_eqlB r r) r ?_
  refine nf r<|sk<|sb r ?_
  first | refine fz r ?_ | refine fy r ?_
  refine ld r r ?_
  first | refine ll r ?_ | refine lv (opv_lenS r) r ?_
  refine an r<|jr ?_
  exact K_ret1 rfl rfl () trivial (rfl) (Ent.refl _)
theorem RText_err (p : Nat) (s : ByteArray) (e m : Int) (he : e ≠ 0) : FSpec Tryz.prog 44 #[.pointer (some (ad p 0)), .int .i64 m] (cel p [.string s, .int .i64 e] 176) (fun _ : Unit => True) (fun _ => .string ByteArray.empty) (fun _ => cel p [.string s, .int .i64 e] 176) := by
  refine en Tryz.func44 r fun σ F=>san r<|js<|sa r<|cy (Err_spec p s e) r fun _=>lv ((opv_neq r r).bool_t he) r<|nt r<|san r<|jr<|kd ?_
  exact K_ret1 rfl rfl () trivial (rfl) (Ent.refl _)
theorem RText_neg (p : Nat) (s : ByteArray) (m : Int) (h : m < 0) : FSpec Tryz.prog 44 #[.pointer (some (ad p 0)), .int .i64 m] (cel p [.string s, .int .i64 0] 176) (fun _ : Unit => True) (fun _ => .string ByteArray.empty) (fun _ => cel p [.string s, .int .i64 1] 176) := by
  refine en Tryz.func44 r fun σ F=>san r<|js<|sa r<|cy (Err_spec p s 0) r fun _=>lv ((opv_neq r r).bool_f (by decide)) r<|nf r<|sk<|js<|jb<|sa r<|lv ((opv_lss r r).bool_t h) r<|an r<|ct r<|sb r ?_
  first | refine fz r ?_ | refine fy r ?_
  refine lx r (opx_store r r r (by simp [Value.oneCell'])) fun _ _=>nr<|an r<|jr<|kq<|kd ?_
  exact K_ret1 rfl rfl () trivial (rfl) (Ent.refl _)
theorem RText_short (p : Nat) (s : ByteArray) (m : Int) (h : (s.size : Int) < m) : FSpec Tryz.prog 44 #[.pointer (some (ad p 0)), .int .i64 m] (cel p [.string s, .int .i64 0] 176) (fun _ : Unit => True) (fun _ => .string ByteArray.empty) (fun _ => cel p [.string s, .int .i64 10] 176) := by
  refine en Tryz.func44 r fun σ F=>san r<|js<|sa r<|cy (Err_spec p s 0) r fun _=>lv ((opv_neq r r).bool_f (by decide)) r<|nf r<|sk<|js<|jb<|sa r<|lv ((opv_lss r r).bool_f (by omega)) r<|an r<|cf r<|sr<|ec r ?_
  first | refine fz r ?_ | refine fy r ?_
  refine ld r r ?_
  first | refine ll r ?_ | refine lv (opv_lenS r) r ?_
  refine lv ((opv_gtr r r).bool_t h) r<|an r<|ct r<|sb r ?_
  first | refine fz r ?_ | refine fy r ?_
  refine lx r (opx_store r r r (by simp [Value.oneCell'])) fun _ _=>nr<|an r<|jr<|kq<|kd ?_
  exact K_ret1 rfl rfl () trivial (rfl) (Ent.refl _)
theorem RText_ok (p : Nat) (s : ByteArray) (m : Nat) (h : m ≤ s.size) : FSpec Tryz.prog 44 #[.pointer (some (ad p 0)), .int .i64 m] (cel p [.string s, .int .i64 0] 176) (fun _ : Unit => True) (fun _ => .string (s.extract 0 m)) (fun _ => cel p [.string (s.extract m s.size), .int .i64 0] 176) := by
  refine en Tryz.func44 r fun σ F=>san r<|js<|sa r<|cy (Err_spec p s 0) r fun _=>lv ((opv_neq r r).bool_f (by decide)) r<|nf r<|sk<|js<|jb<|sa r<|lv ((opv_lss r r).bool_f (by omega)) r<|an r<|cf r<|sr<|ec r ?_
  first | refine fz r ?_ | refine fy r ?_
  refine ld r r ?_
  first | refine ll r ?_ | refine lv (opv_lenS r) r ?_
  refine lv ((opv_gtr r r).bool_f (by omega)) r<|an r<|cf r<|skb<|sb r ?_
  first | refine fz r ?_ | refine fy r ?_
  refine ld r r<|ea r<|lv ((opv_sliceShi r r (by omega)).as (congrArg (fun k => Value.string (s.extract 0 k)) (Int.toNat_natCast m))) r<|an r<|sr<|ec r ?_
  first | refine fz r ?_ | refine fy r ?_
  refine ld r r<|ea r<|lv ((opv_sliceSlo r r (by omega)).as (congrArg (fun k => Value.string (s.extract k s.size)) (Int.toNat_natCast m))) r<|ea r ?_
  first | refine fz r ?_ | refine fy r ?_
  refine lx r (opx_store r r r (by simp [Value.oneCell'])) fun _ _=>nr<|eb r<|nk<|jr ?_
  exact K_ret1 rfl rfl () trivial (rfl) Ent.take
/-- The number that bytes are, the highest ones first. -/
def numB (s : ByteArray) : Nat → Nat
  | 0 => 0
  | k + 1 => numB s k * 256 + bn s k
theorem numB_lt (s : ByteArray) : ∀ k, numB s k < 256 ^ k
  | 0 => Nat.one_pos
  | k + 1 => by
    have h1 := numB_lt s k
    have h2 := bn_lt s k
    rw [numB, Nat.pow_succ]
    omega
/-- What a reader answers to a Text, and what it is then. -/
def textS (s : ByteArray) (e m : Int) : ByteArray × ByteArray × Int :=
  if e ≠ 0 then (ByteArray.empty, s, e) else if m < 0 then (ByteArray.empty, s, 1) else if (s.size : Int) < m then (ByteArray.empty, s, 10) else (s.extract 0 m.toNat, s.extract m.toNat s.size, 0)
theorem RText_any (p : Nat) (s : ByteArray) (e m : Int) : FSpec Tryz.prog 44 #[.pointer (some (ad p 0)), .int .i64 m] (cel p [.string s, .int .i64 e] 176) (fun _ : Unit => True) (fun _ => .string (textS s e m).1) (fun _ => cel p [.string (textS s e m).2.1, .int .i64 (textS s e m).2.2] 176) := by
  unfold textS
  by_cases he : e ≠ 0
  · rw [if_pos he]
    exact RText_err p s e m he
  · have he : e = 0 := Classical.not_not.1 he
    subst he
    rw [if_neg (by decide)]
    by_cases h1 : m < 0
    · rw [if_pos h1]
      exact RText_neg p s m h1
    · rw [if_neg h1]
      by_cases h2 : (s.size : Int) < m
      · rw [if_pos h2]
        exact RText_short p s m h2
      · rw [if_neg h2]
        obtain ⟨k, rfl⟩ : ∃ k : Nat, m = k := ⟨m.toNat, by omega⟩
        rw [Int.toNat_natCast]
        exact RText_ok p s k (by omega)
end Go.Proofs.YtpkcniedaabpoaaGreat
namespace Go.Proofs.YtpkcniedaabpoaaGreat
open Go.SLA
set_option maxRecDepth 100000
attribute [local irreducible] J L K QL Rg FSpec OpV OpX Rd Back
theorem numB_step (T : ByteArray) (k : Nat) (hk : k + 1 ≤ 4) : Value.int .u32 (IntKind.u32.wrap (((BitVec.ofInt IntKind.u32.bits ((numB T k * 2 ^ 8 : Nat) : Int) ||| BitVec.ofInt IntKind.u32.bits ((bn T k : Nat) : Int)).toNat : Nat) : Int)) = .int .u32 ((numB T (k + 1) : Nat) : Int) := by
  have h1 := numB_lt T (k + 1)
  have h2 : 256 ^ (k + 1) ≤ 256 ^ 4 := Nat.pow_le_pow_right (by decide) hk
  have h3 : (256 : Nat) ^ 4 = 4294967296 := by decide
  have h4 := bn_lt T k
  have h5 : numB T (k + 1) = numB T k * 2 ^ 8 + bn T k := rfl
  show Value.int .u32 (IntKind.u32.wrap (((BitVec.ofInt 32 ((numB T k * 2 ^ 8 : Nat) : Int) ||| BitVec.ofInt 32 ((bn T k : Nat) : Int)).toNat : Nat) : Int)) = _
  rw [BitVec.ofInt_natCast, BitVec.ofInt_natCast, BitVec.toNat_or, BitVec.toNat_ofNat, BitVec.toNat_ofNat, Nat.mod_eq_of_lt (by omega), Nat.mod_eq_of_lt (by omega), ← Nat.shiftLeft_eq, ← Nat.shiftLeft_add_eq_or_of_lt (by omega), Nat.shiftLeft_eq, ← h5, Go.IntWalk.u32_in _ (by omega)]
theorem numB_shl (T : ByteArray) (k : Nat) (hk : k + 1 ≤ 4) : IntKind.u32.wrap (((numB T k : Nat) : Int) * 2 ^ (min (Int.toNat 8) IntKind.u32.bits)) = ((numB T k * 2 ^ 8 : Nat) : Int) := by
  have h1 := numB_lt T (k + 1)
  have h2 : 256 ^ (k + 1) ≤ 256 ^ 4 := Nat.pow_le_pow_right (by decide) hk
  have h3 : (256 : Nat) ^ 4 = 4294967296 := by decide
  have h5 : numB T (k + 1) = numB T k * 2 ^ 8 + bn T k := rfl
  show IntKind.u32.wrap (((numB T k : Nat) : Int) * 256) = _
  rw [Go.IntWalk.u32_in _ (by omega)]
  omega
theorem textS_size (s : ByteArray) (e : Int) (c : Nat) : (textS s e c).1.size ≤ c := by
  unfold textS
  split
  · exact Nat.zero_le _
  · split
    · exact Nat.zero_le _
    · split
      · exact Nat.zero_le _
      · rw [Int.toNat_natCast, ByteArray.size_extract]
        omega
theorem textS_ok (s : ByteArray) (c : Nat) (h : c ≤ s.size) : textS s 0 c = (s.extract 0 c, s.extract c s.size, 0) := by
  unfold textS
  rw [if_neg (by decide), if_neg (by omega), if_neg (by omega), Int.toNat_natCast]
theorem number_spec (p : Nat) (s : ByteArray) (e : Int) (c : Nat) (hc : c ≤ 4) : FSpec Tryz.prog 77 #[.pointer (some (ad p 0)), .int .i64 (8 * c : Nat)] (cel p [.string s, .int .i64 e] 176) (fun _ : Unit => True) (fun _ => .int .u32 (numB (textS s e (c : Int)).1 (ByteArray.size (textS s e (c : Int)).1))) (fun _ => cel p [.string (textS s e (c : Int)).2.1, .int .i64 (textS s e (c : Int)).2.2] 176) := by
  have hts := textS_size s e c
  refine en Tryz.func77 r fun σ F=>san r<|san r<|js<|sb r<|lv ((opv_quoP r r (by omega)).as (v' := .int .i64 (c : Int)) (by rw [show ((8 * c : Nat) : Int) / 8 = (c : Int) by omega])) r<|cy (RText_any p s e (c : Int)) r fun _=>lx r (opx_s2b r r) fun y12 _=>?_
  first | refine ll r ?_ | refine lv (opv_lenS r) r ?_
  refine an r<|jb ?_
  refine J_loop (X := Nat) (fun k => [(5, .int .u32 (numB (textS s e (c : Int)).1 k)), (12, .slice (some (ad y12.1 0)) (ByteArray.size (textS s e (c : Int)).1) y12.2), (13, .int .i64 (ByteArray.size (textS s e (c : Int)).1)), (14, .int .i64 k)]) (fun k => (sep (byb y12.1 (textS s e (c : Int)).1 y12.2 5) (sep (cel p [.string (textS s e (c : Int)).2.1, .int .i64 (textS s e (c : Int)).2.2] 176) (F)))) (fun k => k ≤ ByteArray.size (textS s e (c : Int)).1) (fun k => ByteArray.size (textS s e (c : Int)).1 - k) (0) (Nat.zero_le _) ⟨rfl, rfl, rfl, rfl, trivial⟩ (Ent.refl _) (fun k hk => ?_)
  have hlt := bn_lt (textS s e (c : Int)).1 k
  refine sr<|lv (opv_lss r r) r<|nj ?_
  refine J_cond rfl (fun h1 => ?_) (fun h1 => ?_)
  · refine sk<|js<|jb<|sr ?_
    first | refine lv (opv_indexAddr r r (by omega)) r ?_ | refine lv (opv_indexAddrA r r (by omega)) r ?_
    refine lv ((opv_load r (Rd.byb (s := (textS s e (c : Int)).1) (c := y12.2) (e := 5) (by omega))).as (v' := .int .u8 ((bn (textS s e (c : Int)).1 k : Nat) : Int)) (congrArg (fun j => Value.int .u8 (byt (textS s e (c : Int)).1 j)) (by omega))) r<|an r<|jg<|ea r<|lv ((opv_shl r r (by omega)).as (congrArg (Value.int .u32) (numB_shl (textS s e (c : Int)).1 k (by omega)))) r<|ea r<|lv (opv_convW r (Go.IntWalk.u32_in _ (by omega))) r<|lv ((opv_or r r).as (numB_step (textS s e (c : Int)).1 k (by omega))) r<|ea r<|ln<|kb<|kt<|jg ?_
    first | refine lv (opv_add64 r r (by omega)) r ?_ | refine lv (opv_addS r r (by omega)) r ?_ | refine lv (opv_add r r) r ?_
    refine ea r<|ln ?_
    exact K_loop (k + 1) (by omega) (by omega) ⟨rfl, rfl, rfl, rfl, trivial⟩ Ent.take
  · refine J_exit ?_
    refine ke<|ke<|kh<|kt<|sb r<|nk<|jr ?_
    obtain rfl : k = ByteArray.size (textS s e (c : Int)).1 := by omega
    exact K_ret1 rfl rfl () trivial (rfl) Ent.take
end Go.Proofs.YtpkcniedaabpoaaGreat
namespace Go.Proofs.YtpkcniedaabpoaaGreat
open Go.SLA
set_option maxRecDepth 100000
attribute [local irreducible] J L K QL Rg FSpec OpV OpX Rd Back
theorem bn_app_l {a b : ByteArray} {i : Nat} (h : i < a.size) : bn (a ++ b) i = bn a i := by
  have : i < a.data.toList.length := by rw [Array.length_toList]; exact h
  unfold bn
  rw [ByteArray.data_append, Array.toList_append, List.getD_eq_getElem?_getD, List.getD_eq_getElem?_getD, List.getElem?_append_left this]
theorem bn_app_r {a b : ByteArray} {i : Nat} (h : a.size ≤ i) : bn (a ++ b) i = bn b (i - a.size) := by
  have e : a.data.toList.length = a.size := by rw [Array.length_toList]; rfl
  have : a.data.toList.length ≤ i := by rw [e]; exact h
  unfold bn
  rw [ByteArray.data_append, Array.toList_append, List.getD_eq_getElem?_getD, List.getD_eq_getElem?_getD, List.getElem?_append_right this, e]
theorem bn_ext {a b : ByteArray} (hs : a.size = b.size) (h : ∀ i, i < a.size → bn a i = bn b i) : a = b := by
  have ea : a.data.toList.length = a.size := by rw [Array.length_toList]; rfl
  have eb : b.data.toList.length = b.size := by rw [Array.length_toList]; rfl
  have e : a.data.toList = b.data.toList := by
    refine List.ext_getElem (by omega) fun i h1 h2 => ?_
    have := h i (by omega)
    unfold bn at this
    rw [List.getD_eq_getElem?_getD, List.getD_eq_getElem?_getD, List.getElem?_eq_getElem h1, List.getElem?_eq_getElem h2] at this
    exact UInt8.toNat_inj.1 this
  cases a; cases b
  simp only at e
  rw [Array.toList_inj.1 e]
theorem ext_size (s : ByteArray) (a b : Nat) (h : b ≤ s.size) : (s.extract a b).size = b - a := by rw [ByteArray.size_extract]; omega
theorem bn_extract {s : ByteArray} {a b i : Nat} (h : a + i < b) (hb : b ≤ s.size) : bn (s.extract a b) i = bn s (a + i) := by
  unfold bn
  have e : s.data.toList.length = s.size := by rw [Array.length_toList]; rfl
  rw [ByteArray.data_extract, List.getD_eq_getElem?_getD, List.getD_eq_getElem?_getD, Array.getElem?_toList, Array.getElem?_toList, Array.getElem?_extract, if_pos (by
    show i < min b s.size - a
    omega)]
theorem bn_be0 (m c : Nat) : bn (be m (c + 1)) 0 = m / 256 ^ c % 256 := by
  rw [be, bn_app_l (by rw [bytesL_size]; exact Nat.one_pos)]
  show (UInt8.ofNat (((m / 256 ^ c % 256 : Nat) : Int)).toNat).toNat = _
  rw [Int.toNat_natCast, UInt8.toNat_ofNat', Nat.mod_eq_of_lt (Nat.mod_lt _ (by decide))]
theorem bn_be1 (m c i : Nat) : bn (be m (c + 1)) (i + 1) = bn (be m c) i := by
  rw [be, bn_app_r (by rw [bytesL_size]; simp), bytesL_size]
  rfl
/-- Two bytes as a number. -/
def word (s : ByteArray) (i : Nat) : Nat := bn s i * 256 + bn s (i + 1)
theorem word_lt (s : ByteArray) (i : Nat) : word s i < 65536 := by
  have := bn_lt s i
  have := bn_lt s (i + 1)
  unfold word
  omega
theorem word_be {m : Nat} (h : m ≤ 65535) : word (be m 2) 0 = m := by
  unfold word
  rw [bn_be0, bn_be1, bn_be0]
  omega
theorem word_app_l {a b : ByteArray} {i : Nat} (h : i + 1 < a.size) : word (a ++ b) i = word a i := by unfold word; rw [bn_app_l (by omega), bn_app_l (by omega)]
theorem word_app_r {a b : ByteArray} {i : Nat} (h : a.size ≤ i) : word (a ++ b) i = word b (i - a.size) := by unfold word; rw [bn_app_r h, bn_app_r (by omega), show i + 1 - a.size = i - a.size + 1 by omega]
theorem fold_mod (n : Nat) : fold n % 65535 = n % 65535 := by
  induction n using Nat.strongRecOn with
  | _ n ih =>
    rw [fold]
    split
    · rfl
    · rw [ih _ (by omega)]; omega
theorem fold_pos (n : Nat) (h : 0 < n) : 0 < fold n := by
  induction n using Nat.strongRecOn with
  | _ n ih =>
    rw [fold]
    split
    · exact h
    · exact ih _ (by omega) (by omega)
theorem wsum_congr {s r : ByteArray} : ∀ k, (∀ i, i < k → bn s i = bn r i) → wsum s k = wsum r k
  | 0, _ => rfl
  | k + 1, h => by rw [wsum, wsum, wsum_congr k (fun i hi => h i (by omega)), h k (by omega)]
theorem wsum_mono {s : ByteArray} : ∀ {k n : Nat}, k ≤ n → wsum s k ≤ wsum s n
  | k, 0, h => by rw [show k = 0 by omega]; exact Nat.le_refl _
  | k, n + 1, h => by
    rcases Nat.lt_or_ge k (n + 1) with h' | h'
    · have := wsum_mono (s := s) (k := k) (n := n) (by omega)
      rw [wsum]
      omega
    · rw [show k = n + 1 by omega]; exact Nat.le_refl _
theorem numB_word (r : ByteArray) (h : 2 ≤ r.size) : numB (r.extract 0 2) 2 = word r 0 := by
  show (0 * 256 + bn (r.extract 0 2) 0) * 256 + bn (r.extract 0 2) 1 = _
  rw [bn_extract (by omega) h, bn_extract (by omega) h]
  unfold word
  rw [Nat.add_zero]
  omega
theorem numB_two (s : ByteArray) (e : Int) (c : Nat) (hc : c ≤ 4) : numB (textS s e c).1 (textS s e c).1.size < 256 ^ c := by
  have h1 := numB_lt (textS s e c).1 (textS s e c).1.size
  have h2 := textS_size s e c
  exact Nat.lt_of_lt_of_le h1 (Nat.pow_le_pow_right (by decide) h2)
/-- A reader behind one more number. -/
def nextC (c : Nat) (q : ByteArray × Int) : ByteArray × Int := ((textS q.1 q.2 c).2.1, (textS q.1 q.2 c).2.2)
theorem nextC_ok {c : Nat} {s : ByteArray} (h : c ≤ s.size) : nextC c (s, 0) = (s.extract c s.size, 0) := by unfold nextC; rw [textS_ok s c h]
theorem nextC_size {c : Nat} {q : ByteArray × Int} : (nextC c q).1.size ≤ q.1.size ∧ ((nextC c q).2 = 0 → q.2 = 0 ∧ (nextC c q).1.size + c = q.1.size) := by
  unfold nextC textS
  split
  · exact ⟨Nat.le_refl _, fun h => absurd h (by assumption)⟩
  · split
    · exact ⟨Nat.le_refl _, fun h => by cases h⟩
    · split
      · exact ⟨Nat.le_refl _, fun h => by cases h⟩
      · rw [Int.toNat_natCast]
        dsimp only
        rw [ByteArray.size_extract]
        exact ⟨by omega, fun _ => ⟨Classical.not_not.1 (by assumption), by omega⟩⟩
theorem RU8_spec (p : Nat) (s : ByteArray) (e : Int) : FSpec Tryz.prog 46 #[.pointer (some (ad p 0))] (cel p [.string s, .int .i64 e] 176) (fun _ : Unit => True) (fun _ => .int .i64 (numB (textS s e (1 : Nat)).1 (ByteArray.size (textS s e (1 : Nat)).1))) (fun _ => cel p [.string (nextC 1 (s, e)).1, .int .i64 (nextC 1 (s, e)).2] 176) := by
  have hlt := numB_two s e 1 (by decide)
  have hpw : (256 : Nat) ^ 1 = 256 := by decide
  refine en Tryz.func46 r fun σ F=>san r<|sa r<|cy (number_spec p s e 1 (by decide)) r fun _=>?_
  first | refine lv (opv_convW r (Go.IntWalk.i64_in _ (by omega))) r ?_ | refine lv (opv_convert r) r ?_
  refine an r<|jr ?_
  exact K_ret1 rfl rfl () trivial (rfl) (Ent.refl _)
theorem RU16_spec (p : Nat) (s : ByteArray) (e : Int) : FSpec Tryz.prog 43 #[.pointer (some (ad p 0))] (cel p [.string s, .int .i64 e] 176) (fun _ : Unit => True) (fun _ => .int .i64 (numB (textS s e (2 : Nat)).1 (ByteArray.size (textS s e (2 : Nat)).1))) (fun _ => cel p [.string (nextC 2 (s, e)).1, .int .i64 (nextC 2 (s, e)).2] 176) := by
  have hlt := numB_two s e 2 (by decide)
  have hpw : (256 : Nat) ^ 2 = 65536 := by decide
  refine en Tryz.func43 r fun σ F=>san r<|sa r<|cy (number_spec p s e 2 (by decide)) r fun _=>?_
  first | refine lv (opv_convW r (Go.IntWalk.i64_in _ (by omega))) r ?_ | refine lv (opv_convert r) r ?_
  refine an r<|jr ?_
  exact K_ret1 rfl rfl () trivial (rfl) (Ent.refl _)
theorem Rest_spec (p : Nat) (s : ByteArray) (e : Int) : FSpec Tryz.prog 56 #[.pointer (some (ad p 0))] (cel p [.string s, .int .i64 e] 176) (fun _ : Unit => True) (fun _ => .string (textS s e s.size).1) (fun _ => cel p [.string (textS s e s.size).2.1, .int .i64 (textS s e s.size).2.2] 176) := by
  refine en Tryz.func56 r fun σ F=>san r<|sb r<|cy (Left_spec p s e) r fun _=>cy (RText_any p s e s.size) r fun _=>an r<|jr ?_
  exact K_ret1 rfl rfl () trivial (rfl) Ent.take
theorem RU16_ok (p : Nat) (r : ByteArray) (h : 2 ≤ r.size) : FSpec Tryz.prog 43 #[.pointer (some (ad p 0))] (cel p [.string r, .int .i64 0] 176) (fun _ : Unit => True) (fun _ => .int .i64 (word r 0)) (fun _ => cel p [.string (r.extract 2 r.size), .int .i64 0] 176) := by
  have := RU16_spec p r 0
  have e := textS_ok r 2 h
  have hz := ext_size r 0 2 h
  rw [nextC_ok h, e] at this
  rw [hz, numB_word r h] at this
  exact this
theorem ext_ext (s : ByteArray) (o k : Nat) : (s.extract o s.size).extract k (s.extract o s.size).size = s.extract (o + k) s.size := by
  rw [ByteArray.extract_extract, ByteArray.size_extract]
  congr 1
  omega
theorem word_ext {s : ByteArray} {o i : Nat} (h : o + i + 2 ≤ s.size) : word (s.extract o s.size) i = word s (o + i) := by
  unfold word
  rw [bn_extract (by omega) (Nat.le_refl _), bn_extract (by omega) (Nat.le_refl _), Nat.add_assoc]
theorem RU16_at (p o : Nat) (s : ByteArray) (h : o + 2 ≤ s.size) : FSpec Tryz.prog 43 #[.pointer (some (ad p 0))] (cel p [.string (s.extract o s.size), .int .i64 0] 176) (fun _ : Unit => True) (fun _ => .int .i64 (word s o)) (fun _ => cel p [.string (s.extract (o + 2) s.size), .int .i64 0] 176) := by
  have := RU16_ok p (s.extract o s.size) (by rw [ext_size s _ _ (Nat.le_refl _)]; omega)
  rw [ext_ext, word_ext (by omega)] at this
  exact this
theorem Rest_ok (p : Nat) (s : ByteArray) : FSpec Tryz.prog 56 #[.pointer (some (ad p 0))] (cel p [.string s, .int .i64 0] 176) (fun _ : Unit => True) (fun _ => .string s) (fun _ => cel p [.string ByteArray.empty, .int .i64 0] 176) := by
  have := Rest_spec p s 0
  rw [textS_ok s s.size (Nat.le_refl _), ByteArray.extract_same, ByteArray.extract_zero_size] at this
  exact this
end Go.Proofs.YtpkcniedaabpoaaGreat
namespace Go.SLA
variable {prog : Program} {σ : World} {n : Nat} {Q : Exit → Act → World → Prop} {E E' : Env} {P P' R F : HProp} {ops : Array Oper} {rest : List Oper}
theorem run_appendBL {t e B : Nat} {ty : TypeId} {zs : List Value} {u : Option Addr × Nat} {s r : ByteArray} {sb so c' : Nat} [Slc prog t e 1] [Zer prog e zs] [Byt prog e B] (hzl : zs.length = 1) {w : World} (hs : Sat σ w (sep (OwnB e u s) (P)))
    (hsrc : ∀ j v, (bts r)[j]? = some v → Rd P sb (so + j) v) (h63 : s.size + r.size ≤ maxLen) (hB : (s.size + r.size) * B ≤ 140737488355328) :
    ∃ u' w', (Builtin.append_ #[t, t] ty #[.slice u.1 s.size u.2, .slice (some (ad sb so)) r.size c']).run prog w = .ok (.slice u'.1 (s ++ r).size u'.2) w' ∧ Sat σ w' (sep (OwnB e u' (s ++ r)) (P)) := by
  rcases sat_ownB hs with h | ⟨b, c, rfl, hc1, hc2, h⟩
  · obtain ⟨A, c, w', h1, h2⟩ := run_append (prog := prog) (t := t) (ty := ty) (k := r.size) (news := bts r) (y := .slice (some (ad sb so)) r.size c') hzl (by omega) h (.inr ⟨sb, so, c', rfl, fun j v hj σ' w' hw' => hsrc j v hj σ' w' hw'.drop⟩) (by rw [bts_len, Nat.mul_one]) (bts_one r) h63 hB
    refine ⟨(A, c), w', by rw [ByteArray.size_append]; exact h1, ?_⟩
    rw [← bts_append, ← ByteArray.size_append] at h2
    exact h2.ent (Ent.frame (OwnB.own (x := (A, c))) P)
  · obtain ⟨ht, i, hi, hsz⟩ := Slc.spec (prog := prog) t e 1
    obtain ⟨i', z, hi', hz, hzc⟩ := Zer.spec (prog := prog) e zs
    obtain rfl : i = i' := Option.some.inj (hi.symm.trans hi')
    obtain ⟨i', hi'', hb⟩ := Byt.spec (prog := prog) e B
    obtain rfl : i = i' := Option.some.inj (hi.symm.trans hi'')
    have hl : (bts r).length = r.size := bts_len r
    have hls : (bts s).length = s.size := bts_len s
    have hzsz : z.cells.size = 1 := by rw [← Array.length_toList, hzc, hzl]
    have hblk := h.blk
    have hrl := bytesRow_list s c
    have hrs : (bytesRow s c).size = c := by rw [← Array.length_toList, hrl, List.length_append, hls, List.length_replicate]; omega
    have hnews : ∀ j v, (bts r)[j]? = some v → w.cell? ((ad sb so).add j) = some v := fun j v hj => by rw [ad_add]; exact hsrc j v hj σ w h.drop
    by_cases hroom : s.size + r.size ≤ c
    · have hfc : (Builtin.firstCells 1 r.size (.slice (some (ad sb so)) r.size c')).run prog w = .ok (bts r).toArray w := run_firstCells_some (P := prog) w 1 r.size (ad sb so) r.size c' (bts r) (by rw [hl, Nat.mul_one]) hnews
      have hst := run_storeCells_atG prog b s.size e _ (bts r) 0 (bytesRow s c) w hblk (Nat.le_refl _) (by rw [hrs, hl]; omega) (bts_one r)
      simp only [Nat.add_zero] at hst
      have e2 : ((bytesRow s c).toList.take s.size ++ bts r ++ (bytesRow s c).toList.drop (s.size + (bts r).length)).toArray = bytesRow (s ++ r) c := by
        apply Array.toList_inj.1
        rw [hrl, bytesRow_list (s ++ r), List.take_left' hls, hl, bts_append, ByteArray.size_append]
        simp only [List.append_assoc]
        congr 2
        rw [← List.drop_drop, List.drop_left' hls, List.drop_replicate]
        congr 1
        omega
      rw [e2] at hst
      have hst' : (storeCells ((ad b 0).add (s.size * 1)) (bts r) 0).run prog w = .ok () (w.setRow b (bytesRow (s ++ r) c)) := by
        rw [ad_add, Nat.zero_add, Nat.mul_one]; exact hst
      have hrs' : (bytesRow (s ++ r) c).size = c := by rw [← Array.length_toList, bytesRow_list, List.length_append, bts_len, List.length_replicate, ByteArray.size_append]; omega
      refine ⟨(some (ad b 0), c), w.setRow b (bytesRow (s ++ r) c), ?_, ?_⟩
      · simp only [Builtin.append_, List.getElem?_toArray, List.getElem?_cons_zero, List.getElem?_cons_succ, Sem.run_bind, run_und' ht, Result.andThen_ok, run_sizeOf' hi, Sem.run_pure, Builtin.lenOf, hsz, hroom, if_true, hfc, hst', Sem.run_ite, Bool.false_eq_true, if_false, Bool.not_false, ByteArray.size_append]
      · have h5 : Sat σ (w.setRow b (bytesRow (s ++ r) c)) (sep (SLA.byb b (s ++ r) c e) (P)) := by
          refine h.update (w' := w.setRow b (bytesRow (s ++ r) c)) rfl rfl rfl ?_ (fun k hk => setRow_other w b k _ hk)
          rw [setRow_heap w b _ _ e _ hblk, hrs, hrs']
        exact h5.ent (Ent.frame (OwnB.byb (by rw [ByteArray.size_append]; exact hroom) hc2) P)
    · have hold : ∀ j u, (bts s)[j]? = some u → w.cell? ((ad b 0).add j) = some u := fun j u hj => by
        have hjl : j < s.size := by
          rcases Nat.lt_or_ge j s.size with h | h
          · exact h
          · rw [List.getElem?_eq_none (by rw [hls]; exact h)] at hj; cases hj
        rw [bts_get s j hjl] at hj
        cases hj
        rw [ad_add, Nat.zero_add]
        exact sat_byb h hjl
      have hsrc' : Go.Src prog i.size t (.slice (some (ad sb so)) r.size c') r.size (bts r) w := by
        rw [hsz]; exact Go.Src.ofSlice w ht (ad sb so) r.size c' (bts r) (by rw [hl, Nat.mul_one]) hnews (bts_one r)
      have hr' := run_append_grow_src (P := prog) w t t ty e i z ht hi hz (some (ad b 0)) s.size c (bts s) (by
        have h5 := run_firstCells_some (P := prog) w.drew i.size s.size (ad b 0) s.size c (bts s) (by rw [hls, hsz, Nat.mul_one]) (fun j u hj => by simpa using hold j u hj)
        exact h5) (.slice (some (ad sb so)) r.size c') r.size (bts r) hsrc' (by omega) (by simp only [maxLen] at h63; omega) (growslice_fits (by omega) (by rw [hb]; exact hB))
      have hge := grownCap_ge w (s.size + r.size) c e
      have hle := grownCap_le_maxLen w (s.size + r.size) c e h63
      refine ⟨(some ⟨w.heap.size, 0, none⟩, grownCap w (s.size + r.size) c e), _, by rw [ByteArray.size_append]; exact hr', ?_⟩
      have h2 := h.drop.drew.alloc (.cells ((bts s ++ bts r).toArray ++ Builtin.zeroCells z.cells (grownCap w (s.size + r.size) c e - (s.size + r.size))) e)
      have e1 : ((bts s ++ bts r).toArray ++ Builtin.zeroCells z.cells (grownCap w (s.size + r.size) c e - (s.size + r.size))) = ([] ++ (bts s ++ bts r) ++ (Builtin.zeroCells z.cells (grownCap w (s.size + r.size) c e - (s.size + r.size))).toList).toArray := by
        apply Array.toList_inj.1; simp
      rw [e1] at h2 ⊢
      refine h2.ent (Ent.frame (Ent.trans (Own.mk (v := .slice (some ⟨w.heap.size, 0, none⟩) (s.size + r.size) (grownCap w (s.size + r.size) c e)) (len := s.size + r.size) (m := 1) (cap := grownCap w (s.size + r.size) c e) rfl hge hle (by rw [List.length_append, hls, hl, Nat.mul_one]) ?_) ?_) P)
      · rw [Array.length_toList, size_zeroCells, hzsz]
        exact Nat.le_refl _
      · rw [← bts_append, ← ByteArray.size_append]
        exact OwnB.own (x := (some ⟨w.heap.size, 0, none⟩, _))
/-- A literal of bytes is appended. -/
theorem opx_appendBL {d : Nat} {x y : Operand} {t e B : Nat} {ty : TypeId} {pos : String} {aft : Array Edge} {g : Option (Nat × Bool)} {zs : List Value} {u : Option Addr × Nat} {s : ByteArray} {k sb c' q : Nat} {cells : List Value} {te : TypeId} {R1 : HProp} (r : ByteArray) [Slc prog t e 1] [Zer prog e zs] [Byt prog e B] (hx : ev E x = some (.slice u.1 k u.2)) (hy : ev E y = some (.slice (some (ad sb 0)) q c')) [hT : FOwnB P e u s R] [hk' : Look R sb cells te R1] (hk : k = s.size)
    (hq : q = r.size) (hc : cells = bts r) (hzl : zs.length = 1) (h63 : s.size + r.size ≤ maxLen) (hB : (s.size + r.size) * B ≤ 140737488355328) (hd : Nat.blt d n = true) :
    OpX prog σ n E P ⟨some d, .call ⟨.builtin .append, #[x, y], #[t, t]⟩, ty, pos, aft, g⟩ (fun _ : Option Addr × Nat => True) (fun u' => (d, .slice u'.1 (s ++ r).size u'.2) :: E) (fun u' => (sep (OwnB e u' (s ++ r)) (R))) := by
  subst hk hq hc
  refine OpX.of_run rfl hd fun a w ha hw => ?_
  rw [hT.eq] at hw
  obtain ⟨u', w', hr, hs'⟩ := run_appendBL (prog := prog) (t := t) (ty := ty) (c' := c') (sb := sb) (so := 0) hzl hw (fun j v hj => by rw [Nat.zero_add]; exact Rd.look (b := sb) (l := bts r) hj) h63 hB
  refine ⟨u', w', trivial, ?_, hs'⟩
  simp only [execOp, resolve, List.map_toArray, List.map_cons, List.map_nil, ha.ev hx, ha.ev hy, Sem.run_bind, Sem.run_pure, Result.andThen_ok, invoke, builtin, hr]
end Go.SLA
namespace Go.Proofs.YtpkcniedaabpoaaGreat
open Go.SLA
set_option maxRecDepth 100000
attribute [local irreducible] J L K QL Rg FSpec OpV OpX Rd Back
instance : Zer Tryz.prog 317 (List.replicate 256 (.int .u32 0)) := ⟨by kernel_rfl⟩
/-- One step of a sum by a bit. -/
def cstep (c : Int) : Int := IntKind.u32.wrap (((BitVec.ofInt IntKind.u32.bits (c.fdiv (2 ^ (min (Int.toNat 1) IntKind.u32.bits))) ^^^ BitVec.ofInt IntKind.u32.bits (IntKind.u32.wrap ((BitVec.ofInt IntKind.u32.bits 3988292384 &&& BitVec.ofInt IntKind.u32.bits (IntKind.u32.wrap (0 - IntKind.u32.wrap ((BitVec.ofInt IntKind.u32.bits c &&& BitVec.ofInt IntKind.u32.bits 1).toNat : Int)))).toNat : Int))).toNat : Nat) : Int)
def citer (k : Nat) : Nat → Int
  | 0 => (k : Int)
  | j + 1 => cstep (citer k j)
/-- The table, of which the first k places are filled. -/
def tabL (k : Nat) : List Value := (List.range k).map (fun i => Value.int .u32 (citer i 8)) ++ List.replicate (256 - k) (.int .u32 0)
theorem tabL_len {k : Nat} (h : k ≤ 256) : (tabL k).length = 256 := by simp [tabL]; omega
theorem tabL_set {k : Nat} (h : k < 256) : tabL (k + 1) = (tabL k).take k ++ [.int .u32 (citer k 8)] ++ (tabL k).drop (k + 1) := by
  unfold tabL
  have h1 : ((List.range k).map (fun i => Value.int .u32 (citer i 8))).length = k := by simp
  rw [List.take_left' h1, List.range_succ, List.map_append, List.drop_append, List.drop_eq_nil_of_le (by rw [h1]; omega), h1, show k + 1 - k = 1 by omega, List.drop_replicate, show 256 - k - 1 = 256 - (k + 1) by omega]
  simp
theorem tabL_get {j : Nat} (h : j < 256) : (tabL 256)[j]? = some (.int .u32 (citer j 8)) := by
  unfold tabL
  rw [List.getElem?_append_left (by simpa using h), List.getElem?_map, List.getElem?_range h]
  rfl
def cidx (c b : Int) : Nat := (BitVec.ofInt IntKind.u8.bits (IntKind.u8.wrap c) ^^^ BitVec.ofInt IntKind.u8.bits b).toNat
theorem cidx_lt (c b : Int) : cidx c b < 256 := (BitVec.ofInt IntKind.u8.bits (IntKind.u8.wrap c) ^^^ BitVec.ofInt IntKind.u8.bits b).isLt
theorem cidx_v (c b : Int) : Value.int .u8 (IntKind.u8.wrap ((BitVec.ofInt IntKind.u8.bits (IntKind.u8.wrap c) ^^^ BitVec.ofInt IntKind.u8.bits b).toNat : Int)) = .int .u8 (cidx c b : Int) := by
  have := cidx_lt c b
  rw [show ((BitVec.ofInt IntKind.u8.bits (IntKind.u8.wrap c) ^^^ BitVec.ofInt IntKind.u8.bits b).toNat : Int) = (cidx c b : Int) from rfl, Go.IntWalk.u8_in _ (by omega)]
def cgo (c b : Int) : Int := IntKind.u32.wrap (((BitVec.ofInt IntKind.u32.bits (c.fdiv (2 ^ (min (Int.toNat 8) IntKind.u32.bits))) ^^^ BitVec.ofInt IntKind.u32.bits (citer (cidx c b) 8)).toNat : Nat) : Int)
def cfold (s : ByteArray) (c : Int) : Nat → Int
  | 0 => c
  | k + 1 => cgo (cfold s c k) (byt s k)
/-- The check sum of a text. -/
def csum (s : ByteArray) : Int := IntKind.u32.wrap ((BitVec.ofInt IntKind.u32.bits (if IntKind.u32.signed then -1 else IntKind.u32.max) ^^^ BitVec.ofInt IntKind.u32.bits (cfold s 4294967295 s.size)).toNat : Int)
def cbyte (c : Int) (i : Nat) : Int := IntKind.u8.wrap (c.fdiv (2 ^ (min (Int.toNat (8 * i : Nat)) IntKind.u32.bits)))
/-- A text with its check sum behind it. -/
def sealS (s : ByteArray) : ByteArray := s ++ bytesL ((List.range 4).map (cbyte (csum s)))
theorem sealS_size (s : ByteArray) : (sealS s).size = s.size + 4 := by unfold sealS; rw [ByteArray.size_append, bytesL_size]; rfl
theorem Make_spec  : FSpec Tryz.prog 112 #[] (emp) (fun b : Nat => True) (fun b => .pointer (some (ad b 0))) (fun b => cel b (tabL 256) 317) := by
  refine en Tryz.func112 r fun σ F=>J_emp<|san r<|sr<|lv (opv_buildA (pl := []) r r) r<|bx r fun b5=>an r<|js<|san r<|jb ?_
  refine J_loop (X := Nat) (fun k => [(1, .pointer (some (ad b5 0))), (6, .int .i64 (k : Int))]) (fun k => (sep (cel b5 (tabL k) 317) (F))) (fun k => k ≤ 256) (fun k => 256 - k) (0) (by omega) ⟨rfl, rfl, trivial⟩ (Ent.refl _) (fun k hk => ?_)
  refine sr<|lv (opv_lss r r) r<|nj ?_
  refine J_cond rfl (fun h1 => ?_) (fun h1 => ?_)
  · refine sk<|js<|jb<|sb r<|nr<|ea r ?_
    first | refine lv (opv_convW r (Go.IntWalk.u32_in _ (by omega))) r ?_ | refine lv (opv_convert r) r ?_
    refine an r<|js<|san r<|jb ?_
    refine J_loop (X := Nat) (fun j => [(1, .pointer (some (ad b5 0))), (2, .int .i64 (k : Int)), (6, .int .i64 (k : Int)), (3, .int .u32 (citer k j)), (11, .int .i64 (j : Int))]) (fun j => (sep (cel b5 (tabL k) 317) (F))) (fun j => j ≤ 8) (fun j => 8 - j) (0) (by omega) ⟨rfl, rfl, rfl, rfl, rfl, trivial⟩ (Ent.refl _) (fun j hj => ?_)
    refine sr<|lv (opv_lss r r) r<|nj ?_
    refine J_cond rfl (fun h2 => ?_) (fun h2 => ?_)
    · refine sk<|js<|jb<|jg<|ea r<|lv (opv_shr r r (by omega)) r<|ea r<|lv (opv_and r r) r<|lv (opv_neg r) r<|lv (opv_and r r) r<|lv ((opv_xor r r).as (v' := .int .u32 (citer k (j + 1))) r) r<|ea r<|ln<|kb<|kt<|jg ?_
      first | refine lv (opv_add64 r r (by omega)) r ?_ | refine lv (opv_addS r r (by omega)) r ?_ | refine lv (opv_add r r) r ?_
      refine ea r<|ln ?_
      exact K_loop (j + 1) (by omega) (by omega) ⟨rfl, rfl, rfl, rfl, rfl, trivial⟩ (Ent.refl _)
    · have he : j = 8 := by omega
      subst he
      refine J_exit ?_
      refine ke<|ke<|kh<|kt<|jg<|ed r<|lv (opv_indexAddrA r r (by omega)) r ?_
      refine lx r (opx_storeAt (m := 1) (l := tabL k) (vs := [.int .u32 (citer k 8)]) (l' := tabL (k + 1)) r r r (by simp [Value.oneCell']) (by rw [tabL_len (by omega)]; show 0 + (k : Int).toNat * 1 + 1 ≤ 256; omega) (by rw [show 0 + (k : Int).toNat * 1 = k by omega]; exact tabL_set (by omega))) fun _ _=>ln<|kb<|kt<|jg ?_
      first | refine lv (opv_add64 r r (by omega)) r ?_ | refine lv (opv_addS r r (by omega)) r ?_ | refine lv (opv_add r r) r ?_
      refine ea r<|ln ?_
      exact K_loop (k + 1) (by omega) (by omega) ⟨rfl, rfl, trivial⟩ (Ent.refl _)
  · have he : k = 256 := by omega
    subst he
    refine J_exit ?_
    refine ke<|ke<|kh<|kt<|sb r<|nk<|jr ?_
    exact K_ret1 rfl rfl b5 trivial rfl (Ent.refl _)
theorem Go_spec (b : Nat) (c : Int) (s : ByteArray) (hs : s.size ≤ 281474976710656) : FSpec Tryz.prog 113 #[.pointer (some (ad b 0)), .int .u32 c, .string s] (cel b (tabL 256) 317) (fun _ : Unit => True) (fun _ => .int .u32 (cfold s c s.size)) (fun _ => cel b (tabL 256) 317) := by
  refine en Tryz.func113 r fun σ F=>san r<|js<|sa r<|lv ((opv_eqlNil r r).as (v' := .bool false) r) r<|nf r<|sk<|js<|sa r<|lx r (opx_s2b r r) fun y13 _=>?_
  first | refine ll r ?_ | refine lv (opv_lenS r) r ?_
  refine an r<|jb ?_
  refine J_loop (X := Nat) (fun k => [(0, .pointer (some (ad b 0))), (1, .int .u32 (cfold s c k)), (13, .slice (some (ad y13.1 0)) s.size y13.2), (14, .int .i64 s.size), (15, .int .i64 (k : Int))]) (fun k => (sep (byb y13.1 s y13.2 5) (sep (cel b (tabL 256) 317) (F)))) (fun k => k ≤ s.size) (fun k => s.size - k) (0) (by omega) ⟨rfl, rfl, rfl, rfl, rfl, trivial⟩ (Ent.refl _) (fun k hk => ?_)
  have hix := cidx_lt (cfold s c k) (byt s k)
  refine sr<|lv (opv_lss r r) r<|nj ?_
  refine J_cond rfl (fun h1 => ?_) (fun h1 => ?_)
  · refine sk<|js<|jb<|sr ?_
    first | refine lv (opv_indexAddr r r (by omega)) r ?_ | refine lv (opv_indexAddrA r r (by omega)) r ?_
    refine lv ((opv_load r (Rd.byb (s := s) (c := y13.2) (e := 5) (by omega))).as (v' := .int .u8 (byt s k)) (congrArg (fun j => Value.int .u8 (byt s j)) (by omega))) r<|an r<|jg<|ea r<|lv (opv_shr r r (by omega)) r<|eb r<|lv (opv_convert r) r<|ea r<|lv ((opv_xor r r).as (cidx_v _ _)) r<|ea r<|lv (opv_indexAddrA r r (by omega)) r<|lv (opv_load r (Rd.look (by rw [show 0 + (cidx (cfold s c k) (byt s k) : Int).toNat * 1 = cidx (cfold s c k) (byt s k) by omega]; exact tabL_get hix))) r<|lv ((opv_xor r r).as (v' := .int .u32 (cfold s c (k + 1))) r) r<|ea r<|ln<|kb ?_
    refine kt<|jg ?_
    first | refine lv (opv_add64 r r (by omega)) r ?_ | refine lv (opv_addS r r (by omega)) r ?_ | refine lv (opv_add r r) r ?_
    refine ea r<|ln ?_
    exact K_loop (k + 1) (by omega) (by omega) ⟨rfl, rfl, rfl, rfl, rfl, trivial⟩ (Ent.refl _)
  · have he : k = s.size := by omega
    subst he
    refine J_exit ?_
    refine ke<|ke<|kh<|kt<|sb r<|nk<|jr ?_
    exact K_ret1 rfl rfl () trivial rfl (Ent.trans Ent.take (Ent.refl _))
theorem Sum_spec (b : Nat) (s : ByteArray) (hs : s.size ≤ 281474976710656) : FSpec Tryz.prog 74 #[.slice (some (ad b 0)) 1 1] (cel b [.string s] 9) (fun _ : Unit => True) (fun _ => .int .u32 (csum s)) (fun _ => cel b [.string s] 9) := by
  refine en Tryz.func74 r fun σ F=>san r<|sr<|cy Make_spec r fun b7=>eb r<|nj<|sa r ?_
  first | refine ll r ?_ | refine lv (opv_lenS r) r ?_
  refine an r<|jb ?_
  refine J_loop (X := Nat) (fun k => [(3, .pointer (some (ad b7 0))), (4, .int .u32 (if k = 0 then 4294967295 else cfold s 4294967295 s.size)), (8, .slice (some (ad b 0)) 1 1), (9, .int .i64 (1 : Nat)), (10, .int .i64 (k : Int))]) (fun k => (sep (cel b7 (tabL 256) 317) (sep (cel b [.string s] 9) (F)))) (fun k => k ≤ 1) (fun k => 1 - k) (0) (by omega) ⟨rfl, rfl, rfl, rfl, rfl, trivial⟩ (Ent.refl _) (fun k hk => ?_)
  refine sr<|lv (opv_lss r r) r<|nj ?_
  refine J_cond rfl (fun h1 => ?_) (fun h1 => ?_)
  · have he : k = 0 := by omega
    subst he
    refine sk<|js<|jb<|sr ?_
    first | refine lv (opv_indexAddr r r (by omega)) r ?_ | refine lv (opv_indexAddrA r r (by omega)) r ?_
    refine lv ((opv_load r (Rd.look (l := [.string s]) r)).as (v' := .string s) r) r<|an r<|jg<|ec r<|cy (Go_spec b7 4294967295 s hs) r fun _=>ea r<|ln<|kb<|kt<|jg ?_
    first | refine lv (opv_add64 r r (by omega)) r ?_ | refine lv (opv_addS r r (by omega)) r ?_ | refine lv (opv_add r r) r ?_
    refine ea r<|ln ?_
    exact K_loop (1) (by omega) (by omega) ⟨rfl, rfl, rfl, rfl, rfl, trivial⟩ (Ent.refl _)
  · have he : k = 1 := by omega
    subst he
    refine J_exit ?_
    refine ke<|ke<|kh<|kt<|sa r<|lv ((opv_compl r).as (v' := .int .u32 (csum s)) r) r<|an r<|jr ?_
    exact K_ret1 rfl rfl () trivial rfl (Ent.trans Ent.take (Ent.refl _))
attribute [local irreducible] cfold csum tabL cgo cstep
theorem u8wrap (a : Int) : 0 ≤ IntKind.u8.wrap a ∧ IntKind.u8.wrap a < 256 := by rw [IntKind.wrap_u8]; omega
theorem bytesL_app (l r : List Int) : bytesL l ++ bytesL r = bytesL (l ++ r) := by
  apply ByteArray.ext
  simp [bytesL, ByteArray.data_append]
theorem seal_cut (s : ByteArray) : (sealS s).extract 0 (s.size : Int).toNat = s := by
  unfold sealS
  rw [Int.toNat_natCast, ByteArray.extract_append_eq_left]
  rfl
theorem seal_step (s : ByteArray) (c : Int) (k : Nat) : (s ++ bytesL ((List.range k).map (cbyte c))) ++ bytesL [cbyte c k] = s ++ bytesL ((List.range (k + 1)).map (cbyte c)) := by
  rw [ByteArray.append_assoc, bytesL_app, List.range_succ, List.map_append]
  rfl
theorem seal_bts (c : Int) (k : Nat) : [Value.int .u8 (cbyte c k)] = bts (bytesL [cbyte c k]) := by
  rw [bts_bytesL]
  · rfl
  · intro v hv
    simp only [List.mem_singleton] at hv
    subst hv
    exact u8wrap _
theorem seal_size (s : ByteArray) (c : Int) (k : Nat) : (s ++ bytesL ((List.range k).map (cbyte c))).size = s.size + k := by
  rw [ByteArray.size_append, bytesL_size]; simp
theorem seal_nil (s : ByteArray) (c : Int) : s ++ bytesL ((List.range 0).map (cbyte c)) = s := by
  exact ByteArray.append_empty
theorem Seal_spec (s : ByteArray) (hs : s.size ≤ 1048576) : FSpec Tryz.prog 39 #[.string s] (emp) (fun _ : Unit => True) (fun _ => .string (sealS s)) (fun _ => emp) := by
  refine en Tryz.func39 r fun σ F=>J_emp<|san r<|sa r<|lx r (opx_s2bB r (by unfold maxLen; omega) r) fun y7 _=>an r<|js<|sa r<|lx r (opx_buildSlice1 (m := 1) r r (by omega) (by omega) r) fun b9 _=>cy (Sum_spec b9 s (by omega)) r fun _=>eb r<|nk<|jb ?_
  refine J_loop (X := (Option Addr × Nat) × Nat) (fun z => [(3, .slice z.1.1 (s.size + z.2 : Nat) z.1.2), (4, .int .u32 (csum s)), (5, .int .i64 (z.2 : Int))]) (fun z => (sep (OwnB 5 z.1 (s ++ bytesL ((List.range z.2).map (cbyte (csum s))))) (F))) (fun z => z.2 ≤ 4) (fun z => 4 - z.2) ((y7, 0)) (by show (0 : Nat) ≤ 4; omega) ⟨rfl, rfl, rfl, trivial⟩ (by rw [seal_nil]; exact Ent.take) (fun z hk => ?_)
  refine js<|sa r<|lv (opv_lss r r) r<|nk ?_
  refine J_cond rfl (fun h1 => ?_) (fun h1 => ?_)
  · refine sk<|js<|jb<|jg<|ec r<|lv ((opv_mul64 r r (by omega)).as (v' := .int .i64 ((8 * z.2 : Nat) : Int)) (by rw [Int.natCast_mul]; rfl)) r<|lv ((opv_convW r (Go.IntWalk.u64_in _ (by omega))).as (v' := .int .u64 ((8 * z.2 : Nat) : Int)) r) r<|lv (opv_shr r r (by omega)) r<|lv ((opv_convert r).as (v' := .int .u8 (cbyte (csum s) z.2)) r) r<|lx r (opx_buildSlice1 (m := 1) r r (by omega) (by omega) r) fun b22 _=>lx r (opx_appendBL (bytesL [cbyte (csum s) z.2]) r r (seal_size _ _ _).symm (by rw [bytesL_size]; rfl) (seal_bts _ _) r (by rw [seal_size, bytesL_size]; unfold maxLen; simp only [List.length_singleton]; omega) (by rw [seal_size, bytesL_size]; simp only [List.length_singleton]; omega) r) fun y23 _=>ea r<|ln<|kb<|kt<|jg ?_
    refine ea r ?_
    first | refine lv (opv_add64 r r (by omega)) r ?_ | refine lv (opv_addS r r (by omega)) r ?_ | refine lv (opv_add r r) r ?_
    refine ea r<|ln ?_
    exact K_loop ((y23, z.2 + 1)) (by show z.2 + 1 ≤ 4; omega) (by show 4 - (z.2 + 1) < 4 - z.2; omega) ⟨by show some (Value.slice y23.1 _ y23.2) = _; rw [ByteArray.size_append, seal_size, bytesL_size]; rfl, rfl, rfl, trivial⟩ (by rw [seal_step]; exact Ent.take)
  · have he : z.2 = 4 := by omega
    refine J_exit ?_
    refine ke<|ke<|kh<|kt<|sa r<|lv (opv_b2sB r (seal_size _ _ _).symm) r<|an r<|jr ?_
    exact K_ret1 rfl rfl () trivial (by rw [he]; rfl) (Ent.trans Ent.take (by first | exact Ent.refl _ | exact Ent.drop))
theorem Open_ok (s : ByteArray) (hs : s.size ≤ 1048576) : FSpec Tryz.prog 40 #[.string (sealS s)] (emp) (fun _ : Unit => True) (fun _ => .tuple #[.string s, .int .i64 0]) (fun _ => emp) := by
  have hz := sealS_size s
  refine en Tryz.func40 r fun σ F=>J_emp<|sb r<|nr<|ea r ?_
  first | refine ll r ?_ | refine lv (opv_lenS r) r ?_
  refine lv ((opv_sub64 r r (by omega)).as (v' := .int .i64 (s.size : Int)) (by rw [hz]; congr 1; omega)) r<|an r<|js<|sa r<|lv ((opv_lss r r).bool_f (by omega)) r<|nf r<|sk<|js<|sb r<|lv ((opv_sliceShi r r (by omega)).as (v' := .string s) (congrArg Value.string (seal_cut s))) r<|cy (Seal_spec s hs) r fun _=>ea r<|lv ((opv_neqS r r).bool_f (by simp)) r<|nf r<|sk<|sb r ?_
  refine lv ((opv_sliceShi r r (by omega)).as (v' := .string s) (congrArg Value.string (seal_cut s))) r<|eb r<|nk<|jr ?_
  exact K_ret2 rfl rfl rfl () trivial rfl (Ent.refl _)
end Go.Proofs.YtpkcniedaabpoaaGreat
namespace Go.Proofs.YtpkcniedaabpoaaGreat
open Go.SLA
set_option maxRecDepth 100000
attribute [local irreducible] J L K QL Rg FSpec OpV OpX Rd Back
instance : UpT Tryz.prog 166 313 168 2 := ⟨by kernel_rfl⟩
instance : NoEsc Tryz.prog 149 := ⟨⟨Tryz.f149, Tryz.func149, by kernel_rfl, by kernel_rfl, by kernel_rfl, by kernel_rfl⟩⟩
instance : PtrE Tryz.prog 235 5 := ⟨by kernel_rfl⟩
theorem cc_new (b : Nat) (v : Value) : FSpec Tryz.prog 110 #[.pointer (some (ad b 0))] (cel b [.pointer none, v] 168) (fun _ : Unit => True) (fun _ => .tuple #[]) (fun _ => cel b [.pointer (some (ad b 0)), v] 168) := by
  refine en Tryz.func110 r fun σ F=>sb r ?_
  first | refine fz r ?_ | refine fy r ?_
  refine ld r r ?_
  first | refine lv (opv_eql r r) r ?_ | refine lv (opv_eqlS r r) r ?_ | refine lv (opv_eqlNil r r) r ?_ | refine lv (opv_eqlB r r) r ?_
  refine nt r<|jg<|eb r<|lv (opv_toUnsafe r r) r<|lx r (opx_noEscape r r) fun _ _=>lv (opv_fromUnsafe r r) r<|ea r ?_
  first | refine fz r ?_ | refine fy r ?_
  refine lx r (opx_store r r r (by simp [Value.oneCell'])) fun _ _=>ln ?_
  exact K_end0 rfl () trivial rfl Ent.take
theorem cc_old (b : Nat) (v : Value) : FSpec Tryz.prog 110 #[.pointer (some (ad b 0))] (cel b [.pointer (some (ad b 0)), v] 168) (fun _ : Unit => True) (fun _ => .tuple #[]) (fun _ => cel b [.pointer (some (ad b 0)), v] 168) := by
  refine en Tryz.func110 r fun σ F=>sb r ?_
  first | refine fz r ?_ | refine fy r ?_
  refine ld r r ?_
  first | refine lv (opv_eql r r) r ?_ | refine lv (opv_eqlS r r) r ?_ | refine lv (opv_eqlNil r r) r ?_ | refine lv (opv_eqlB r r) r ?_
  refine nf r<|sb r ?_
  first | refine fz r ?_ | refine fy r ?_
  refine ld r r<|ea r<|lv (opv_neqPtr r r) r<|nf r<|jk ?_
  exact K_end0 rfl () trivial rfl Ent.take
theorem cc_any (b : Nat) (q : Option Addr) (v : Value) (hq : q = none ∨ q = some (ad b 0)) : FSpec Tryz.prog 110 #[.pointer (some (ad b 0))] (cel b [.pointer q, v] 168) (fun _ : Unit => True) (fun _ => .tuple #[]) (fun _ => cel b [.pointer (some (ad b 0)), v] 168) := by
  rcases hq with rfl | rfl
  · exact cc_new b v
  · exact cc_old b v
theorem BLen (b : Nat) (q : Option Addr) (A : Option Addr) (n c : Nat) : FSpec Tryz.prog 72 #[.pointer (some (ad b 0))] (cel b [.pointer q, .slice A n c] 168) (fun _ : Unit => True) (fun _ => .int .i64 n) (fun _ => cel b [.pointer q, .slice A n c] 168) := by
  refine en Tryz.func72 r fun σ F=>san r<|sb r ?_
  first | refine fz r ?_ | refine fy r ?_
  refine ld r r ?_
  first | refine ll r ?_ | refine lv (opv_lenS r) r ?_
  refine an r<|jr ?_
  exact K_ret1 rfl rfl () trivial (rfl) Ent.take
theorem BWrite (b : Nat) (q : Option Addr) (u : Option Addr × Nat) (s t : ByteArray) (hq : q = none ∨ q = some (ad b 0)) (h : s.size + t.size ≤ 1000000000) : FSpec Tryz.prog 71 #[.pointer (some (ad b 0)), .string t] ((sep (cel b [.pointer q, .slice u.1 (s).size u.2] 168) (OwnZ 5 u s))) (fun u' : Option Addr × Nat => True) (fun u' => .tuple #[.int .i64 t.size, .nilIface]) (fun u' => (sep (cel b [.pointer (some (ad b 0)), .slice u'.1 ((s ++ t)).size u'.2] 168) (OwnZ 5 u' (s ++ t)))) := by
  refine en Tryz.func71 r fun σ F=>sb r<|nr<|ea r<|cy (cc_any b q (.slice u.1 (s).size u.2) hq) r fun _=>nr<|ec r ?_
  first | refine fz r ?_ | refine fy r ?_
  refine ld r r<|ea r<|lx r (opx_appendZ r r r r (by unfold maxLen; omega) (by omega) r) fun y14 _=>ea r ?_
  first | refine fz r ?_ | refine fy r ?_
  refine lx r (opx_store r r r (by simp [Value.oneCell'])) fun _ _=>nr<|ea r ?_
  first | refine ll r ?_ | refine lv (opv_lenS r) r ?_
  refine eb r<|nk<|jr ?_
  exact K_ret2 rfl rfl rfl y14 trivial rfl (Ent.take (Q := (sep ((sep (cel b [.pointer (some (ad b 0)), .slice y14.1 ((s ++ t)).size y14.2] 168) (OwnZ 5 y14 (s ++ t)))) (F))))
instance : NoZ Tryz.prog 150 82 5 := ⟨⟨Tryz.f150, _, Tryz.func150, by kernel_rfl, by kernel_rfl, by kernel_rfl, rfl, by kernel_rfl⟩⟩
end Go.Proofs.YtpkcniedaabpoaaGreat
namespace Go.Proofs.YtpkcniedaabpoaaGreat
open Go.SLA
set_option maxRecDepth 100000
attribute [local irreducible] J L K QL Rg FSpec OpV OpX Rd Back
section
variable {prog : Program} {σ : World} {n : Nat} {E : Env} {P : HProp}
theorem opv_copy0 {d : Option Tmp} {ty : TypeId} {pos : String} {aft : Array Edge} {g : Option (Nat × Bool)} {x y : Operand} {t t' e c : Nat} {A : Option Addr} [Slc prog t e 1] (hx : ev E x = some (.slice A 0 c)) (hy : ev E y = some (.slice none 0 0)) : OpV prog σ n E P ⟨d, .call ⟨.builtin .copy, #[x, y], #[t, t']⟩, ty, pos, aft, g⟩ (.int .i64 0) := by
  unfold OpV
  exact fun _ w ha _ => by
    obtain ⟨hu, i, hi, hsz⟩ := Slc.spec (prog := prog) t e 1
    have := run_copy_none (P := prog) w t t' ty e A none 0 c 0 0 hu (by rw [hi, Option.map_some, hsz]) rfl
    simp only [execOp, resolve, List.map_toArray, List.map_cons, List.map_nil, ha.ev hx, ha.ev hy, Sem.run_bind, Sem.run_pure, Result.andThen_ok, invoke, builtin, this]
    first | rfl | simp [goInt]
theorem opv_capL {d : Option Tmp} {ty : TypeId} {pos : String} {aft : Array Edge} {g : Option (Nat × Bool)} {x : Operand} {t e m len cap : Nat} {A : Option Addr} [Slc prog t e m] (hx : ev E x = some (.slice A len cap)) : OpV prog σ n E P ⟨d, .call ⟨.builtin .cap, #[x], #[t]⟩, ty, pos, aft, g⟩ (.int .i64 cap) := by
  unfold OpV
  exact fun _ w ha _ => by
    obtain ⟨h1, i, h2, h3⟩ := Slc.spec (prog := prog) t e m
    simp only [execOp, resolve, List.map_toArray, List.map_cons, List.map_nil, ha.ev hx, Sem.run_bind, Sem.run_pure, Result.andThen_ok, invoke, builtin, Builtin.cap_]
    simp [run_und' h1, goInt]
end
theorem grow_spec (b k : Nat) (hk : k ≤ 1000000) (q : Option Addr) : FSpec Tryz.prog 111 #[.pointer (some (ad b 0)), .int .i64 (k : Nat)] (cel b [.pointer q, .slice none 0 0] 168) (fun u : Option Addr × Nat => True) (fun u => .tuple #[]) (fun u => (sep (cel b [.pointer q, .slice u.1 (ByteArray.empty).size u.2] 168) (OwnZ 5 u ByteArray.empty))) := by
  refine en Tryz.func111 r fun σ F=>js<|J_steps (cel b [.pointer q, .slice none 0 0] 168) (cel b [.pointer q, .slice none 0 0] 168) [] Tryz.mixed<|pe 0 r r<|pe 1 r r ?_
  first | refine ps 2 r (opv_fieldAddr0 r) ?_ | refine ps 2 r (opv_fieldAddr r) ?_
  refine R_ts 3 r (by kernel_rfl) (opv_load r (Rd.look r)) r<|ps 4 r (opv_capL r) ?_
  first | refine ps 5 r (opv_mul64 r r (by omega)) ?_ | refine ps 5 r (opv_mul r r) ?_
  refine pe 6 r r<|ps 7 r ((opv_add64 r r (by omega)).as (v' := .int .i64 (k : Nat)) (congrArg (Value.int .i64) (by omega)))<|pe 9 r r<|pe 10 r r ?_
  first | refine ps 11 r (opv_fieldAddr0 r) ?_ | refine ps 11 r (opv_fieldAddr r) ?_
  refine R_ts 12 r (by kernel_rfl) (opv_load r (Rd.look r)) r ?_
  first | refine ps 13 r (opv_lenL r) ?_ | refine ps 13 r (opv_lenS r) ?_
  refine pn 8 r (opx_makeNoZero (k := k) (t := 82) (e := 5) r (by omega) r) fun m hm=>ps 14 r ((opv_sliceLhi r r (by omega)).as (v' := .slice (some (ad m.1 0)) 0 m.2.length) (by rw [cutV_at]; simp))<|pe 15 r r<|dn<|kt<|sr<|ec r ?_
  first | refine fz r ?_ | refine fy r ?_
  refine ld r r<|lv (opv_copy0 r r) r<|nk<|jg<|ec r ?_
  first | refine fz r ?_ | refine fy r ?_
  refine lx r (opx_store r r r (by simp [Value.oneCell'])) fun _ _=>ln ?_
  exact K_end0 rfl (some (ad m.1 0), m.2.length) trivial rfl (Ent.trans (Ent.take (Q := (sep (cel m.1 m.2 5) (sep (cel b [.pointer q, .slice (some (ad m.1 0)) 0 m.2.length] 168) (F))))) (Ent.trans (Ent.frame (OwnZ.mk (e := 5) (s := ByteArray.empty) (Nat.zero_le _) hm.2 (Nat.le_refl _)) _) (Ent.of (by rw [sep_assoc]; exact sep_left_comm _ _ _))))
theorem Grow_spec (b k : Nat) (hk : 1 ≤ k ∧ k ≤ 1000000) : FSpec Tryz.prog 70 #[.pointer (some (ad b 0)), .int .i64 (k : Nat)] (cel b [.pointer none, .slice none 0 0] 168) (fun u : Option Addr × Nat => True) (fun u => .tuple #[]) (fun u => (sep (cel b [.pointer (some (ad b 0)), .slice u.1 (ByteArray.empty).size u.2] 168) (OwnZ 5 u ByteArray.empty))) := by
  refine en Tryz.func70 r fun σ F=>sa r<|cy (cc_any b none (.slice none 0 0) (.inl r)) r fun _=>nj<|sa r<|lv ((opv_lss r r).bool_f (by omega)) r<|nf r<|sk<|js<|J_quiet Tryz.mixed (by kernel_rfl)<|qb r ?_
  first | refine qz r ?_ | refine qy r ?_
  refine ql r r<|qv (opv_capL r) r<|qb r ?_
  first | refine qz r ?_ | refine qy r ?_
  refine ql r r ?_
  first | refine qv (opv_lenL r) r ?_ | refine qv (opv_lenS r) r ?_
  refine qv ((opv_sub64 r r (by decide)).as (v' := .int .i64 0) r) r<|qa r<|qv ((opv_lss r r).bool_t (by omega)) r<|qn<|kt<|ct r<|jg<|eb r<|cy (grow_spec b k hk.2 (some (ad b 0))) r fun u=>ln ?_
  exact K_end0 rfl u trivial rfl Ent.take
end Go.Proofs.YtpkcniedaabpoaaGreat
namespace Go.SLA
variable {prog : Program} {σ : World} {n : Nat} {Q : Exit → Act → World → Prop} {E E' : Env} {P P' R F : HProp} {ops : Array Oper} {rest : List Oper}
def OwnF (e : TypeId) (x : Option Addr × Nat) (s : ByteArray) : HProp := ex fun z : Nat × Nat × List Value × Nat =>
  (sep (lift (x = (some (ad z.1 0), z.2.1) ∧ s.size ≤ z.2.1 ∧ z.2.1 ≤ maxLen ∧ z.2.1 - s.size ≤ z.2.2.1.length ∧ z.2.2.2 ≤ s.size)) (blk z.1 (.cells (bts s ++ z.2.2.1).toArray e (0, z.2.2.2))))
theorem OwnF.mk {e : TypeId} {b c f : Nat} {s : ByteArray} {post : List Value} (h1 : s.size ≤ c) (h2 : c ≤ maxLen) (h3 : c - s.size ≤ post.length) (h4 : f ≤ s.size) : Ent (blk b (.cells (bts s ++ post).toArray e (0, f))) (OwnF e (some (ad b 0), c) s) :=
  Ent.trans (Ent.lift (p := ((some (ad b 0), c) : Option Addr × Nat) = (some (ad b 0), c) ∧ s.size ≤ c ∧ c ≤ maxLen ∧ c - s.size ≤ post.length ∧ f ≤ s.size) ⟨rfl, h1, h2, h3, h4⟩) (Ent.pt fun h hh => ⟨(b, c, post, f), hh⟩)
theorem sat_ownF {w : World} {e : TypeId} {x : Option Addr × Nat} {s : ByteArray} (h : Sat σ w (sep (OwnF e x s) (R))) : ∃ b c post f, x = (some (ad b 0), c) ∧ s.size ≤ c ∧ c ≤ maxLen ∧ c - s.size ≤ List.length post ∧ f ≤ s.size ∧ Sat σ w (sep (blk b (.cells (bts s ++ post).toArray e (0, f))) (R)) := by
  obtain ⟨⟨b, c, post, f⟩, hz⟩ := sat_ex.1 h
  simp only [sep_assoc] at hz
  obtain ⟨⟨h1, h2, h3, h4, h5⟩, h6⟩ := sat_lift.1 hz
  exact ⟨b, c, post, f, h1, h2, h3, h4, h5, h6⟩
theorem OwnF.ofZ {e : TypeId} {x : Option Addr × Nat} {s : ByteArray} (hs : s.size ≠ 0) : Ent (OwnZ e x s) (OwnF e x s) := Ent.pt fun h hh => by
  obtain ⟨z, hz⟩ := hh
  cases z with
  | none => exact absurd hz.1.2 hs
  | some bc =>
    obtain ⟨b, c, post⟩ := bc
    obtain ⟨h1, h2, ha, hj, ⟨⟨e1, e2, e3, e4⟩, h5⟩, h6⟩ := hz
    exact ⟨(b, c, post, 0), h1, h2, ha, hj, ⟨⟨e1, e2, e3, e4, Nat.zero_le _⟩, h5⟩, h6⟩
class FOwnF (P : HProp) (e : TypeId) (x : Option Addr × Nat) (s : outParam ByteArray) (R : outParam HProp) : Prop where
  eq : P = (sep (OwnF e x s) (R))
instance (priority := 100) {A P R : HProp} {e : TypeId} {x : Option Addr × Nat} {s : ByteArray} [h : FOwnF P e x s R] : FOwnF (sep (A) (P)) e x s (sep (A) (R)) := ⟨by rw [h.eq, sep_left_comm]⟩
instance (priority := 200) {e : TypeId} {x : Option Addr × Nat} {s : ByteArray} {R : HProp} : FOwnF (sep (OwnF e x s) (R)) e x s R := ⟨rfl⟩
theorem run_storeCells_atF (P : Program) (g o : Nat) (t : TypeId) (fz : Nat × Nat) : ∀ (vs : List Value) (i : Nat) (cur : Array Value) (w : World), w.heap[g]? = some (.cells cur t fz) → fz.2 ≤ o → o + i + vs.length ≤ cur.size → (∀ v ∈ vs, v.oneCell' = true) →
    (storeCells ⟨g, o, none⟩ vs i).run P w = .ok () (w.setRow g (cur.toList.take (o + i) ++ vs ++ cur.toList.drop (o + i + vs.length)).toArray)
  | [], i, cur, w, hg, _, _, _ => by
    simp only [storeCells, List.append_nil, List.length_nil, Nat.add_zero, List.take_append_drop, Array.toArray_toList]
    rw [setRow_self w g cur t fz hg]
    rfl
  | v :: rest, i, cur, w, hg, hfz, hl, h1 => by
    have hi : o + i < cur.size := by simp at hl; omega
    have hadd : (⟨g, o, none⟩ : Addr).add i = ⟨g, o + i, none⟩ := by unfold Addr.add; split <;> simp_all
    have hcell : w.cell? ⟨g, o + i, none⟩ = some cur[o + i] := by simp [World.cell?, hg, hi]
    have hfro : w.frozen? ⟨g, o + i, none⟩ = false := by
      obtain ⟨lo, hi'⟩ := fz
      simp only [World.frozen?, hg, Bool.and_eq_false_iff, decide_eq_false_iff_not]
      right
      simp only at hfz
      omega
    have hst : (store ((⟨g, o, none⟩ : Addr).add i) v).run P w = .ok () (w.setRow g (cur.setIfInBounds (o + i) v)) := by
      rw [hadd, run_store P w _ v _ (h1 v (by simp)), hcell]
      simp [hfro, setCell_eq_setRow w g (o + i) cur t fz v hg]
    have ih := run_storeCells_atF P g o t fz rest (i + 1) (cur.setIfInBounds (o + i) v) (w.setRow g (cur.setIfInBounds (o + i) v)) (setRow_heap w g cur _ t _ hg) hfz (by simp at hl ⊢; omega) (fun x hx => h1 x (by simp [hx]))
    simp only [storeCells, Sem.run_bind, hst, Result.andThen_ok, ih, setRow_setRow]
    congr 3
    have e := list_seg_step cur.toList (o + i) v rest (by simp at hl ⊢; omega)
    simpa [Array.toList_setIfInBounds, Nat.add_assoc] using e
theorem cell_of_blkF {w : World} {b o : Nat} {l : List Value} {t : TypeId} {fz : Nat × Nat} (h : Sat σ w (sep (blk b (.cells l.toArray t fz)) (R))) : w.cell? (ad b o) = l[o]? := by
  have := h.blk
  simp [World.cell?, ad, this]
theorem shape_blkF {w : World} {b : Nat} {l : List Value} {e : TypeId} {fz : Nat × Nat} (h : Sat σ w (sep (blk b (.cells l.toArray e fz)) (R))) : w.shape? b = some (e, l.length) := by
  have hb := h.blk
  unfold World.shape?
  rw [hb]
  simp
theorem run_appendF {t tx e B : Nat} {ty : TypeId} {zs : List Value} {u : Option Addr × Nat} {s r : ByteArray} [Slc prog t e 1] [Str prog tx] [Zer prog e zs] [Byt prog e B] (hzl : zs.length = 1) {w : World} (hs : Sat σ w (sep (OwnF e u s) (P)))
    (h63 : s.size + r.size ≤ maxLen) (hB : (s.size + r.size) * B ≤ 140737488355328) :
    ∃ u' w', (Builtin.append_ #[t, tx] ty #[.slice u.1 s.size u.2, .string r]).run prog w = .ok (.slice u'.1 (s ++ r).size u'.2) w' ∧ Sat σ w' (sep (OwnF e u' (s ++ r)) (P)) := by
  obtain ⟨ht, i, hi, hsz⟩ := Slc.spec (prog := prog) t e 1
  have htx := Str.spec (prog := prog) tx
  obtain ⟨i', z, hi', hz, hzc⟩ := Zer.spec (prog := prog) e zs
  obtain rfl : i = i' := Option.some.inj (hi.symm.trans hi')
  obtain ⟨i', hi'', hb⟩ := Byt.spec (prog := prog) e B
  obtain rfl : i = i' := Option.some.inj (hi.symm.trans hi'')
  have hl : (bts r).length = r.size := bts_len r
  have hls : (bts s).length = s.size := bts_len s
  have hzsz : z.cells.size = 1 := by rw [← Array.length_toList, hzc, hzl]
  have hsmall : s.size + r.size ≤ 9223372036854775807 := by simp only [maxLen] at h63; omega
  have hsrc : Go.Src prog i.size tx (.string r) r.size (bts r) w := by rw [hsz]; exact Go.Src.ofString w htx r
  obtain ⟨b, c, post, f, rfl, hc1, hc2, hc3, hf, hP⟩ := sat_ownF hs
  have hblk := hP.blk
  have hold : ∀ j u, (bts s)[j]? = some u → w.cell? ((ad b 0).add j) = some u := fun j u hj => by
    have hjl : j < (bts s).length := by
      rcases Nat.lt_or_ge j (bts s).length with h | h
      · exact h
      · rw [List.getElem?_eq_none h] at hj; cases hj
    rw [ad_add, Nat.zero_add, cell_of_blkF hP, List.getElem?_append_left hjl, hj]
  by_cases hroom : s.size + r.size ≤ c
  · have hfc : (Builtin.firstCells 1 r.size (.string r)).run prog w = .ok (bts r).toArray w := firstCells_string (P := prog) r w
    have hst := run_storeCells_atF prog b s.size e (0, f) (bts r) 0 (bts s ++ post).toArray w hblk hf (by rw [List.size_toArray, List.length_append, hls, hl]; omega) (bts_one r)
    simp only [Nat.add_zero] at hst
    have e2 : (bts s ++ post).toArray.toList.take s.size ++ bts r ++ (bts s ++ post).toArray.toList.drop (s.size + (bts r).length) = bts (s ++ r) ++ post.drop r.size := by
      show (bts s ++ post).take s.size ++ bts r ++ (bts s ++ post).drop (s.size + (bts r).length) = _
      rw [List.take_left' hls, ← List.drop_drop, List.drop_left' hls, hl, bts_append]
    rw [e2] at hst
    have hst' : (storeCells ((ad b 0).add (s.size * 1)) (bts r) 0).run prog w = .ok () (w.setRow b (bts (s ++ r) ++ post.drop r.size).toArray) := by
      rw [ad_add, Nat.zero_add, Nat.mul_one]; exact hst
    refine ⟨(some (ad b 0), c), w.setRow b (bts (s ++ r) ++ post.drop r.size).toArray, ?_, ?_⟩
    · simp only [Builtin.append_, List.getElem?_toArray, List.getElem?_cons_zero, List.getElem?_cons_succ, Sem.run_bind, run_und' ht, run_und' htx, Result.andThen_ok, run_sizeOf' hi, Sem.run_pure, Builtin.lenOf, hsz, hroom, if_true, hfc, hst', Sem.run_ite, Bool.false_eq_true, if_false, Bool.not_false, ByteArray.size_append]
    · have h5 : Sat σ (w.setRow b (bts (s ++ r) ++ post.drop r.size).toArray) (sep (blk b (.cells (bts (s ++ r) ++ post.drop r.size).toArray e (0, f))) (P)) :=
        hP.update rfl rfl rfl (setRow_heap w b _ _ e _ hblk) (fun k hk => setRow_other w b k _ hk)
      exact h5.ent (Ent.frame (OwnF.mk (by rw [ByteArray.size_append]; exact hroom) hc2 (by rw [ByteArray.size_append, List.length_drop]; omega) (by rw [ByteArray.size_append]; omega)) P)
  · have hr' := run_append_grow_src (P := prog) w t tx ty e i z ht hi hz (some (ad b 0)) s.size c (bts s) (by
      have h5 := run_firstCells_some (P := prog) w.drew i.size s.size (ad b 0) s.size c (bts s) (by rw [hls, hsz, Nat.mul_one]) (fun j u hj => by simpa using hold j u hj)
      exact h5) (.string r) r.size (bts r) hsrc (by omega) (by omega) (growslice_fits (by omega) (by rw [hb]; exact hB))
    refine ⟨(some (ad w.heap.size 0), grownCap w (s.size + r.size) c e), _, by rw [ByteArray.size_append]; exact hr', ?_⟩
    have hge := grownCap_ge w (s.size + r.size) c e
    have hle := grownCap_le_maxLen w (s.size + r.size) c e h63
    have h2 := hP.drop.drew.alloc (.cells ((bts s ++ bts r).toArray ++ Builtin.zeroCells z.cells (grownCap w (s.size + r.size) c e - (s.size + r.size))) e)
    have e1 : ((bts s ++ bts r).toArray ++ Builtin.zeroCells z.cells (grownCap w (s.size + r.size) c e - (s.size + r.size))) = (bts (s ++ r) ++ (Builtin.zeroCells z.cells (grownCap w (s.size + r.size) c e - (s.size + r.size))).toList).toArray := by
      apply Array.toList_inj.1; rw [bts_append]; simp
    rw [e1] at h2 ⊢
    refine h2.ent (Ent.frame (OwnF.mk (f := 0) (by rw [ByteArray.size_append]; exact hge) hle ?_ (Nat.zero_le _)) P)
    rw [Array.length_toList, size_zeroCells, hzsz, ByteArray.size_append]
    omega
theorem opx_appendF {d : Nat} {x y : Operand} {t tx e B : Nat} {ty : TypeId} {pos : String} {aft : Array Edge} {g : Option (Nat × Bool)} {zs : List Value} {u : Option Addr × Nat} {s r : ByteArray} {k : Nat} [Slc prog t e 1] [Str prog tx] [Zer prog e zs] [Byt prog e B] (hx : ev E x = some (.slice u.1 k u.2)) (hy : ev E y = some (.string r)) [hT : FOwnF P e u s R] (hk : k = s.size)
    (hzl : zs.length = 1) (h63 : s.size + r.size ≤ maxLen) (hB : (s.size + r.size) * B ≤ 140737488355328) (hd : Nat.blt d n = true) :
    OpX prog σ n E P ⟨some d, .call ⟨.builtin .append, #[x, y], #[t, tx]⟩, ty, pos, aft, g⟩ (fun _ : Option Addr × Nat => True) (fun u' => (d, .slice u'.1 (s ++ r).size u'.2) :: E) (fun u' => (sep (OwnF e u' (s ++ r)) (R))) := by
  subst hk
  refine OpX.of_run rfl hd fun a w ha hw => ?_
  rw [hT.eq] at hw
  obtain ⟨u', w', hr, hs'⟩ := run_appendF (prog := prog) (t := t) (tx := tx) (ty := ty) hzl hw h63 hB
  refine ⟨u', w', trivial, ?_, hs'⟩
  simp only [execOp, resolve, List.map_toArray, List.map_cons, List.map_nil, ha.ev hx, ha.ev hy, Sem.run_bind, Sem.run_pure, Result.andThen_ok, invoke, builtin, hr]
theorem opx_sliceDataF {d : Nat} {ty : TypeId} {pos : String} {aft : Array Edge} {g : Option (Nat × Bool)} {x : Operand} {t e : TypeId} {u : Option Addr × Nat} {s : ByteArray} {k : Nat} [PtrT prog ty] (hx : ev E x = some (.slice u.1 k u.2)) [hT : FOwnF P e u s R] (h0 : 0 < s.size) (hd : Nat.blt d n = true) :
    OpX prog σ n E P ⟨some d, .call ⟨.builtin .unsafeSliceData, #[x], #[t]⟩, ty, pos, aft, g⟩ (fun _ : Unit => True) (fun _ => (d, .pointer u.1) :: E) (fun _ => P) := by
  refine OpX.of_run rfl hd fun a w ha hw => ?_
  obtain ⟨e', he'⟩ := PtrT.spec (prog := prog) ty
  have hw' := hw
  rw [hT.eq] at hw'
  obtain ⟨b, c, post, f, rfl, hc1, hc2, hc3, hf, hP⟩ := sat_ownF hw'
  have h1 := Lib.run_unsafeSliceData_row (P := prog) (w := w) #[t] ty (ad b 0) k c (by omega)
  exact ⟨(), w, trivial, by simp only [execOp, resolve, List.map_toArray, List.map_cons, List.map_nil, ha.ev hx, Sem.run_bind, Sem.run_pure, Result.andThen_ok, invoke, builtin, h1], hw⟩
theorem opx_unsafeStringF {d : Nat} {ty : TypeId} {pos : String} {aft : Array Edge} {g : Option (Nat × Bool)} {x y : Operand} {t ti e : TypeId} {u : Option Addr × Nat} {s : ByteArray} {k : Int} [hpe : PtrE prog t e] (hx : ev E x = some (.pointer u.1)) (hy : ev E y = some (.int .i64 k)) [hT : FOwnF P e u s R] (hk : k = s.size) (h0 : 0 < s.size) (hd : Nat.blt d n = true) :
    OpX prog σ n E P ⟨some d, .call ⟨.builtin .unsafeString, #[x, y], #[t, ti]⟩, ty, pos, aft, g⟩ (fun _ : Unit => True) (fun _ => (d, .string s) :: E) (fun _ => (sep (OwnF e u s) (R))) := by
  subst hk
  refine OpX.of_run rfl hd fun a w ha hw => ?_
  rw [hT.eq] at hw
  obtain ⟨h1, h2⟩ := hpe.spec
  obtain ⟨b, c, post, f, rfl, hc1, hc2, hc3, hf, hP⟩ := sat_ownF hw
  have hls : (bts s).length = s.size := bts_len s
  have hdl : s.data.toList.length = s.size := Array.length_toList
  have hcell : ∀ j y, s.data.toList[j]? = some y → w.cell? ((⟨b, 0, none⟩ : Addr).add j) = some (.int .u8 y.toNat) := fun j y hj => by
    have hjl : j < s.data.toList.length := by
      rcases Nat.lt_or_ge j s.data.toList.length with h | h
      · exact h
      · rw [List.getElem?_eq_none h] at hj; cases hj
    have hadd : (⟨b, 0, none⟩ : Addr).add j = ad b j := by rw [show (⟨b, 0, none⟩ : Addr) = ad b 0 from rfl, ad_add, Nat.zero_add]
    rw [hadd, cell_of_blkF hP, List.getElem?_append_left (by rw [hls]; omega)]
    unfold bts
    rw [List.getElem?_map, hj]
    rfl
  have hsz : s.size ≤ 9223372036854775807 := by unfold maxLen at hc2; omega
  have hr := Lib.run_unsafeString_row (P := prog) (w := w) t ti ty e h1 h2 b (bts s ++ post).length (shape_blkF hP) s.data.toList (fun h => by rw [← hdl, h] at h0; cases h0) (by rw [List.length_append, hls, hdl]; omega) (by rw [hdl]; exact hsz) hcell
  rw [hdl] at hr
  have h0' : s.size ≠ 0 := by omega
  refine ⟨(), w.freeze ⟨b, 0, none⟩ s.size, trivial, ?_, ?_⟩
  · simp only [execOp, resolve, List.map_toArray, List.map_cons, List.map_nil, ha.ev hx, ha.ev hy, Sem.run_bind, Sem.run_pure, Result.andThen_ok, invoke, builtin]
    have hr2 : (Builtin.unsafeString_ #[t, ti] ty #[.pointer (some (ad b 0)), .int .i64 s.size]).run prog w = .ok (.string s) (w.freeze ⟨b, 0, none⟩ s.size) := by simpa [ad] using hr
    rw [hr2]
    rfl
  · have hblk := hP.blk
    refine (hP.update (w' := w.freeze ⟨b, 0, none⟩ s.size) (o' := .cells (bts s ++ post).toArray e (0, s.size)) ?_ ?_ ?_ ?_ ?_).ent (Ent.frame (OwnF.mk hc1 hc2 hc3 (Nat.le_refl _)) R)
    · unfold World.freeze; rw [if_neg h0']
    · unfold World.freeze; rw [if_neg h0']
    · unfold World.freeze; rw [if_neg h0']
    · unfold World.freeze
      rw [if_neg h0']
      show (w.heap.modify b _)[b]? = _
      rw [Array.getElem?_modify, if_pos rfl, hblk]
      simp only [Option.map_some, Nat.zero_add, Option.some.injEq, Obj.cells.injEq, true_and]
      by_cases hf0 : f = 0
      · subst hf0; simp
      · have : (0 == f) = false := by simp; omega
        simp only [this, Bool.false_eq_true, if_false, Nat.min_self, Prod.mk.injEq, true_and]
        omega
    · intro k hk
      unfold World.freeze
      rw [if_neg h0']
      show (w.heap.modify b _)[k]? = _
      rw [Array.getElem?_modify, if_neg (fun e => hk e.symm)]
end Go.SLA
namespace Go.Proofs.YtpkcniedaabpoaaGreat
open Go.SLA
set_option maxRecDepth 100000
attribute [local irreducible] J L K QL Rg FSpec OpV OpX Rd Back
section
variable {prog : Program} {σ : World} {n : Nat} {E : Env} {P : HProp} {d : Option Tmp} {x y z : Operand} {t t' t'' ty : TypeId} {pos : String} {aft : Array Edge} {g : Option (Nat × Bool)} {k : IntKind} {a b c : Int}
theorem opv_min3 (hx : ev E x = some (.int k a)) (hy : ev E y = some (.int k b)) (hz : ev E z = some (.int k c)) : OpV prog σ n E P ⟨d, .call ⟨.builtin .min, #[x, y, z], #[t, t', t'']⟩, ty, pos, aft, g⟩ (.int k (if c < (if b < a then b else a) then c else (if b < a then b else a))) := by
  unfold OpV
  exact fun _ w ha _ => by
    simp only [execOp, resolve, List.map_toArray, List.map_cons, List.map_nil, ha.ev hx, ha.ev hy, ha.ev hz, Sem.run_bind, Sem.run_pure, Result.andThen_ok, invoke, builtin, Builtin.min_]
    simp [Builtin.min2]
end
theorem m_and (m : Nat) (h : m < 4294967296) : Value.int .u64 (IntKind.u64.wrap (((BitVec.ofInt IntKind.u64.bits (m : Int) &&& BitVec.ofInt IntKind.u64.bits 4294967295).toNat : Nat) : Int)) = .int .u64 (m : Nat) := by
  have := low_bits (w := 64) (m := 32) (a := (m : Int)) (by decide) (by constructor; omega; show (m : Int) < 18446744073709551616; omega)
  have e : ((BitVec.ofInt IntKind.u64.bits (m : Int) &&& BitVec.ofInt IntKind.u64.bits 4294967295).toNat : Int) = (m : Int) % 4294967296 := this
  rw [e, Go.IntWalk.u64_in _ (by omega)]
  rw [show (m : Int) % 4294967296 = (m : Int) by omega]
theorem m_shr (m : Nat) (h : m < 4294967296) : Value.int .u64 ((m : Int) / 2 ^ (min (Int.toNat 32) IntKind.u64.bits)) = .int .u64 (0 : Nat) := by
  show Value.int .u64 ((m : Int) / 4294967296) = _
  rw [show (m : Int) / 4294967296 = ((0 : Nat) : Int) by omega]
theorem Mul64_1 (k : Nat) (hk : k < 4294967296) : FSpec Tryz.prog 108 #[.int .u64 (1 : Nat), .int .u64 (k : Nat)] (emp) (fun _ : Unit => True) (fun _ => .tuple #[.int .u64 (0 : Nat), .int .u64 (k : Nat)]) (fun _ => emp) := by
  refine en Tryz.func108 r fun σ F=>sb r<|nr<|ea r<|lv ((opv_and r r).as (v' := .int .u64 (1 : Nat)) (m_and 1 (by omega))) r<|an r<|sa r<|lv ((opv_shrP r r (by omega)).as (v' := .int .u64 (0 : Nat)) (m_shr 1 (by omega))) r<|an r<|sa r<|lv ((opv_and r r).as (m_and k (by omega))) r<|an r<|sa r<|lv ((opv_shrP r r (by omega)).as (m_shr k (by omega))) r<|an r<|sb r ?_
  refine lv ((opv_mulW r r (Go.IntWalk.u64_in _ (by omega))).as (v' := .int .u64 (k : Nat)) (congrArg (Value.int .u64) (by omega))) r<|an r<|sb r<|lv ((opv_mulW r r (Go.IntWalk.u64_in _ (by omega))).as (v' := .int .u64 (0 : Nat)) (congrArg (Value.int .u64) (by omega))) r<|ea r<|lv ((opv_shrP r r (by omega)).as (m_shr k (by omega))) r<|lv ((opv_addW r r (Go.IntWalk.u64_in _ (by omega))).as (v' := .int .u64 (0 : Nat)) r) r<|an r<|sa r<|lv ((opv_and r r).as (m_and 0 (by omega))) r<|an r<|sa r<|lv ((opv_shrP r r (by omega)).as (m_shr 0 (by omega))) r<|an r<|sr<|ec r ?_
  refine lv ((opv_mulW r r (Go.IntWalk.u64_in _ (by omega))).as (v' := .int .u64 (0 : Nat)) r) r<|lv ((opv_addW r r (Go.IntWalk.u64_in _ (by omega))).as (v' := .int .u64 (0 : Nat)) r) r<|an r<|sb r<|lv ((opv_mulW r r (Go.IntWalk.u64_in _ (by omega))).as (v' := .int .u64 (0 : Nat)) r) r<|ea r<|lv ((opv_addW r r (Go.IntWalk.u64_in _ (by omega))).as (v' := .int .u64 (0 : Nat)) r) r<|ea r<|lv ((opv_shrP r r (by omega)).as (m_shr 0 (by omega))) r<|lv ((opv_addW r r (Go.IntWalk.u64_in _ (by omega))).as (v' := .int .u64 (0 : Nat)) r) r<|an r<|sb r<|lv ((opv_mulW r r (Go.IntWalk.u64_in _ (by omega))).as (v' := .int .u64 (k : Nat)) (congrArg (Value.int .u64) (by omega))) r<|an r<|jr ?_
  exact K_ret2 rfl rfl rfl () trivial rfl (Ent.refl _)
theorem Mul_1 (k : Nat) (hk : k < 4294967296) : FSpec Tryz.prog 68 #[.int .u64 (1 : Nat), .int .u64 (k : Nat)] (emp) (fun _ : Unit => True) (fun _ => .tuple #[.int .u64 (0 : Nat), .int .u64 (k : Nat)]) (fun _ => emp) := by
  refine en Tryz.func68 r fun σ F=>sb r<|nj<|cf r<|sk<|sb r<|cy (Mul64_1 k hk) r fun _=>L_emp<|ea r<|lv (opv_extract r r) r<|lv (opv_extract r r) r<|eb r<|nr<|ed r<|nk<|jr ?_
  exact K_ret2 rfl rfl rfl () trivial rfl Ent.take
/-- So many bytes 0. -/
def zrs (k : Nat) : ByteArray := ⟨(List.replicate k (0 : UInt8)).toArray⟩
theorem zrs_size (k : Nat) : (zrs k).size = k := by show (List.replicate k (0 : UInt8)).toArray.size = k; simp
theorem zrs_add (a b : Nat) : zrs a ++ zrs b = zrs (a + b) := by
  apply ByteArray.ext
  simp [zrs, ByteArray.data_append]
theorem zrs_cut (a b : Nat) (h : b ≤ a) : (zrs a).extract 0 b = zrs b := by
  rw [show a = b + (a - b) by omega, ← zrs_add, ByteArray.extract_append_eq_left (zrs_size b).symm]
theorem Rep_0 (e : Unit) : FSpec Tryz.prog 38 #[.string (⟨#[0]⟩ : ByteArray), .int .i64 (0 : Nat)] (emp) (fun _ : Unit => True) (fun _ => .string (zrs 0)) (fun _ => emp) := by
  refine en Tryz.func38 r fun σ F=>san r<|js<|san r<|jb<|sr<|lv ((opv_eql r r).bool_t r) r<|an r<|ct r<|san r<|jr<|kq<|kd ?_
  exact K_ret1 rfl rfl () trivial rfl (Ent.refl _)
theorem Rep_1 (e : Unit) : FSpec Tryz.prog 38 #[.string (⟨#[0]⟩ : ByteArray), .int .i64 (1 : Nat)] (emp) (fun _ : Unit => True) (fun _ => .string (zrs 1)) (fun _ => emp) := by
  refine en Tryz.func38 r fun σ F=>san r<|js<|san r<|jb<|sr<|lv ((opv_eql r r).bool_f (by decide)) r<|an r<|cf r<|sr<|lv ((opv_eql r r).bool_t r) r<|an r<|ct r<|sb r<|nk<|jr ?_
  refine kq<|kd ?_
  exact K_ret1 rfl rfl () trivial rfl (Ent.refl _)
theorem BWriteF (b : Nat) (u : Option Addr × Nat) (s t : ByteArray) (h : s.size + t.size ≤ 1000000000) : FSpec Tryz.prog 71 #[.pointer (some (ad b 0)), .string t] ((sep (cel b [.pointer (some (ad b 0)), .slice u.1 (s).size u.2] 168) (OwnF 5 u s))) (fun u' : Option Addr × Nat => True) (fun u' => .tuple #[.int .i64 t.size, .nilIface]) (fun u' => (sep (cel b [.pointer (some (ad b 0)), .slice u'.1 ((s ++ t)).size u'.2] 168) (OwnF 5 u' (s ++ t)))) := by
  refine en Tryz.func71 r fun σ F=>sb r<|nr<|ea r<|cy (cc_old b (.slice u.1 (s).size u.2)) r fun _=>nr<|ec r ?_
  first | refine fz r ?_ | refine fy r ?_
  refine ld r r<|ea r<|lx r (opx_appendF r r r r (by unfold maxLen; omega) (by omega) r) fun y14 _=>ea r ?_
  first | refine fz r ?_ | refine fy r ?_
  refine lx r (opx_store r r r (by simp [Value.oneCell'])) fun _ _=>nr<|ea r ?_
  first | refine ll r ?_ | refine lv (opv_lenS r) r ?_
  refine eb r<|nk<|jr ?_
  exact K_ret2 rfl rfl rfl y14 trivial rfl (Ent.take (Q := (sep ((sep (cel b [.pointer (some (ad b 0)), .slice y14.1 ((s ++ t)).size y14.2] 168) (OwnF 5 y14 (s ++ t)))) (F))))
theorem BStringF (b : Nat) (u : Option Addr × Nat) (s : ByteArray) (h0 : 0 < s.size) : FSpec Tryz.prog 73 #[.pointer (some (ad b 0))] ((sep (cel b [.pointer (some (ad b 0)), .slice u.1 (s).size u.2] 168) (OwnF 5 u s))) (fun _ : Unit => True) (fun _ => .string s) (fun _ => (sep (cel b [.pointer (some (ad b 0)), .slice u.1 (s).size u.2] 168) (OwnF 5 u s))) := by
  refine en Tryz.func73 r fun σ F=>?_
  refine J_eq _ (sep_assoc _ _ _) ?_
  refine san r<|js<|J_steps (cel b [.pointer (some (ad b 0)), .slice u.1 (s).size u.2] 168) (cel b [.pointer (some (ad b 0)), .slice u.1 (s).size u.2] 168) [] Tryz.mixed<|pe 0 r r<|pe 1 r r ?_
  first | refine ps 2 r (opv_fieldAddr0 r) ?_ | refine ps 2 r (opv_fieldAddr r) ?_
  refine R_ts 3 r (by kernel_rfl) (opv_load r (Rd.look r)) r<|pe 5 r r<|pe 6 r r ?_
  first | refine ps 7 r (opv_fieldAddr0 r) ?_ | refine ps 7 r (opv_fieldAddr r) ?_
  refine R_ts 8 r (by kernel_rfl) (opv_load r (Rd.look r)) r ?_
  first | refine ps 9 r (opv_lenL r) ?_ | refine ps 9 r (opv_lenS r) ?_
  refine pn 4 r (opx_sliceDataF (e := 5) (u := u) r h0 r) fun _ _=>pn 10 r (opx_unsafeStringF (e := 5) (u := u) r r r h0 r) fun _ _=>pe 11 r r<|dn<|kt<|jr ?_
  exact K_ret1 rfl rfl () trivial (rfl) (Ent.trans (Ent.take (Q := (sep ((sep (cel b [.pointer (some (ad b 0)), .slice u.1 (s).size u.2] 168) (OwnF 5 u s))) (F)))) (Ent.refl _))
theorem Rep_n (k : Nat) (hk : 2 ≤ k) (hk2 : k ≤ 64) : FSpec Tryz.prog 38 #[.string (⟨#[0]⟩ : ByteArray), .int .i64 (k : Nat)] (emp) (fun _ : Unit => True) (fun _ => .string (zrs k)) (fun _ => emp) := by
  refine en Tryz.func38 r fun σ F=>san r<|js<|san r<|jb<|sr<|lv ((opv_eql r r).bool_f (by omega)) r<|an r<|cf r<|sr<|lv ((opv_eql r r).bool_f (by omega)) r<|an r<|cf r<|skb<|js<|sa r ?_
  refine lv ((opv_lss r r).bool_f (by omega)) r<|nf r<|sk<|sa r<|lv ((opv_lenS r).as (v' := .int .i64 (1 : Nat)) r) r<|lv ((opv_convW r (Go.IntWalk.u64_in _ (by omega))).as (v' := .int .u64 (1 : Nat)) r) r<|ea r<|lv ((opv_convW r (Go.IntWalk.u64_in _ (by omega))).as (v' := .int .u64 (k : Nat)) r) r<|cy (Mul_1 k (by omega)) r fun _=>ea r<|lv (opv_extract r r) r<|lv (opv_extract r r) r<|eb r<|nj<|sa r<|lv ((opv_gtr r r).bool_f (by decide)) r ?_
  refine ea r<|go r<|ea r<|go r<|lv ((opv_gtr r r).bool_f (by omega)) r ?_
  first | refine ea r ?_ | refine lv (opv_pick r r r) r ?_
  refine nf r<|sk<|sa r<|lv ((opv_convW r (Go.IntWalk.i64_in _ (by omega))).as (v' := .int .i64 (k : Nat)) r) r<|an r<|js<|sa r<|lv ((opv_lenS r).as (v' := .int .i64 (1 : Nat)) r) r<|lv ((opv_eql r r).bool_f (by decide)) r<|nf r<|sk<|js<|sa r<|lv ((opv_indexS r r (by decide)).as (v' := .int .u8 0) r) r<|nk<|jb ?_
  refine js<|sr<|lv ((opv_eql r r).bool_f (by decide)) r<|an r<|cf r<|sr<|lv ((opv_eql r r).bool_f (by decide)) r<|an r<|cf r<|sr<|lv ((opv_eql r r).bool_f (by decide)) r<|an r<|cf r<|sr<|lv ((opv_eql r r).bool_f (by decide)) r<|an r ?_
  refine cf r<|jg<|lv ((opv_eql r r).bool_f (by decide)) r<|an r<|cf r<|skb<|sb r<|nj<|sa r<|lv ((opv_gtr r r).bool_f (by omega)) r<|nf r<|sk<|sr<|al r fun b9=>nr<|ea r ?_
  refine cy (Grow_spec b9 k ⟨by omega, by omega⟩) r fun y108=>nr<|ea r<|cy (BWrite b9 (some (ad b9 0)) y108 ByteArray.empty (⟨#[0]⟩ : ByteArray) (.inr r) (by decide)) r fun y110=>?_
  refine L_imp _ (Ent.frame (Ent.frame_left (OwnF.ofZ (by decide)) _) _) ?_
  refine nj<|jb ?_
  refine J_loop (X := (Option Addr × Nat) × Nat) (fun z => [(7, .int .i64 (k : Nat)), (8, .int .i64 (k : Nat)), (9, .pointer (some (ad b9 0)))]) (fun z => (sep ((sep (cel b9 [.pointer (some (ad b9 0)), .slice z.1.1 ((zrs z.2)).size z.1.2] 168) (OwnF 5 z.1 (zrs z.2)))) (F))) (fun z => 1 ≤ z.2 ∧ z.2 ≤ k) (fun z => k - z.2) ((y110, 1)) ⟨Nat.le_refl _, by omega⟩ ⟨rfl, rfl, rfl, trivial⟩ (by rw [show ByteArray.empty ++ (⟨#[0]⟩ : ByteArray) = zrs 1 from rfl]; exact Ent.take) (fun z hz => ?_)
  obtain ⟨hz1, hz2⟩ := hz
  have hzs := zrs_size z.2
  refine js<|sr<|cy (BLen b9 (some (ad b9 0)) z.1.1 (zrs z.2).size z.1.2) r fun _=>ea r<|lv (opv_lss r r) r<|nk ?_
  refine J_cond rfl (fun h1 => ?_) (fun h1 => ?_)
  · refine sk<|jb<|sa r<|cy (BLen b9 (some (ad b9 0)) z.1.1 (zrs z.2).size z.1.2) r fun _=>lv ((opv_sub64 r r (by omega)).as (v' := .int .i64 ((k - z.2 : Nat) : Int)) (congrArg (Value.int .i64) (by rw [hzs]; omega))) r<|cy (BLen b9 (some (ad b9 0)) z.1.1 (zrs z.2).size z.1.2) r fun _=>ea r<|lv ((opv_min3 r r r).as (v' := .int .i64 ((min (k - z.2) z.2 : Nat) : Int)) (congrArg (Value.int .i64) (by rw [hzs]; omega))) r<|an r<|jg<|cy (BStringF b9 z.1 (zrs z.2) (by omega)) r fun _=>ea r<|lv ((opv_sliceShi r r (by rw [hzs]; omega)).as (v' := .string (zrs (min (k - z.2) z.2))) (congrArg Value.string (zrs_cut _ _ (by omega)))) r<|cy (BWriteF b9 z.1 (zrs z.2) (zrs (min (k - z.2) z.2)) (by rw [hzs, zrs_size]; omega)) r fun y123=>ln<|kb ?_
    exact K_loop ((y123, z.2 + min (k - z.2) z.2)) ⟨by show 1 ≤ z.2 + min (k - z.2) z.2; omega, by show z.2 + min (k - z.2) z.2 ≤ k; omega⟩ (by show k - (z.2 + min (k - z.2) z.2) < k - z.2; omega) ⟨rfl, rfl, rfl, trivial⟩ (by rw [zrs_add]; exact Ent.take)
  · have he : z.2 = k := by omega
    refine J_exit ?_
    refine ke<|ke<|kh<|kt<|sr<|cy (BStringF b9 z.1 (zrs z.2) (by omega)) r fun _=>an r<|jr ?_
    exact K_ret1 rfl rfl () trivial (by rw [he]) (by rw [emp_sep]; exact Ent.drop)
end Go.Proofs.YtpkcniedaabpoaaGreat
namespace Go.Proofs.YtpkcniedaabpoaaGreat
open Go.SLA
set_option maxRecDepth 100000
attribute [local irreducible] J L K QL Rg FSpec OpV OpX Rd Back
/-- Numbers as bytes, the highest ones first. -/
theorem wr8 (n : Nat) : IntKind.u8.wrap (n : Int) = ((n % 256 : Nat) : Int) := by rw [IntKind.wrap_u8]; omega
theorem sh8 {n : Nat} : IntKind.u8.wrap ((n : Int) / 2 ^ (min (Int.toNat 8) IntKind.i64.bits)) = ((n / 256 % 256 : Nat) : Int) := by
  show IntKind.u8.wrap ((n : Int) / 256) = _
  rw [IntKind.wrap_u8]; omega
theorem two_spec (n : Nat) (hn : n ≤ 65535) : FSpec Tryz.prog 23 #[.int .i64 (n : Nat)] (emp) (fun _ : Unit => True) (fun _ => .tuple #[.int .u8 ((n / 256 % 256 : Nat) : Int), .int .u8 ((n % 256 : Nat) : Int)]) (fun _ => emp) := by
  refine en Tryz.func23 r fun σ F=>sb r<|nr<|ea r<|lv ((opv_shrP r r (by omega))) r<|lv ((opv_convert r).as (congrArg (Value.int .u8) sh8)) r<|ea r<|lv ((opv_convert r).as (congrArg (Value.int .u8) (wr8 n))) r<|eb r<|nk<|jr ?_
  exact K_ret2 rfl rfl rfl () trivial rfl (Ent.refl _)
theorem Link_ok (n : Nat) (h : 1 ≤ n ∧ n ≤ 65535) : FSpec Tryz.prog 36 #[.int .i64 (n : Nat)] (emp) (fun _ : Unit => True) (fun _ => .tuple #[.agg #[.int .u8 3, .int .u8 0, .int .u8 0, .int .u8 0, .int .u8 ((n / 256 % 256 : Nat) : Int), .int .u8 ((n % 256 : Nat) : Int)], .int .i64 0]) (fun _ => emp) := by
  refine en Tryz.func36 r fun σ F=>J_emp<|sr<|al r fun b2=>an r<|js<|sa r<|lv ((opv_lss r r).bool_f (by omega)) r<|ea r<|go r<|ea r<|go r<|lv ((opv_gtr r r).bool_f (by omega)) r ?_
  first | refine ea r ?_ | refine lv (opv_pick r r r) r ?_
  refine nf r<|sk<|sr<|lv (opv_buildA (pl := [(0, 1), (1, 1), (2, 1), (3, 1), (4, 1), (5, 1)]) r r) r<|al r fun b4=>?_
  refine lx r (opx_store r r r (by simp [Value.oneCell'])) fun _ _=>nr<|ea r<|cy (two_spec n (by omega)) r fun _=>L_emp<|ea r<|lv (opv_extract (v := .int .u8 ((n / 256 % 256 : Nat) : Int)) r r) r<|lv (opv_extract (v := .int .u8 ((n % 256 : Nat) : Int)) r r) r<|lv ((opv_indexAddrA r r (by decide)).as (v' := .pointer (some (ad b4 4))) r) r ?_
  refine lx r (opx_store r r r (by simp [Value.oneCell'])) fun _ _=>lv ((opv_indexAddrA r r (by decide)).as (v' := .pointer (some (ad b4 5))) r) r ?_
  refine lx r (opx_store r r r (by simp [Value.oneCell'])) fun _ _=>nr<|ls r ?_
  refine lx r (opx_store r r r (by simp [Value.oneCell'])) fun _ _=>an r<|jr ?_
  exact K_ret2c rfl rfl rfl rfl () trivial rfl Ent.take
theorem Link_bad (n : Int) (h : ¬ (1 ≤ n ∧ n ≤ 65535)) : FSpec Tryz.prog 36 #[.int .i64 n] (emp) (fun _ : Unit => True) (fun _ => .tuple #[.agg #[.int .u8 0, .int .u8 0, .int .u8 0, .int .u8 0, .int .u8 0, .int .u8 0], .int .i64 1]) (fun _ => emp) := by
  refine en Tryz.func36 r fun σ F=>J_emp<|sr<|al r fun b2=>an r<|js<|sa r<|lv (opv_lss r r) r<|ea r ?_
  refine L_gf rfl rfl (fun h1 => ?_) (fun h1 => ?_) (fun _ h => by cases h; rfl)
  · refine ea r<|L_gf_on h1 r r<|lv (opv_gtr r r) r<|lv (opv_pick_f r h1 r) r<|nk ?_
    refine J_cond rfl (fun h2 => ?_) (fun h2 => by exfalso; omega)
    refine sr<|lv (opv_buildA (pl := [(0, 1), (1, 1), (2, 1), (3, 1), (4, 1), (5, 1)]) r r) r ?_
    refine lx r (opx_store r r r (by simp [Value.oneCell'])) fun _ _=>an r<|jr<|kd ?_
    exact K_ret2c rfl rfl rfl rfl () trivial rfl Ent.take
  · refine L_gf_off h1 rfl rfl ?_ (fun _ h => by cases h; rfl)
    refine lv (opv_pick_t r h1 r) r<|nt r<|sr<|lv (opv_buildA (pl := [(0, 1), (1, 1), (2, 1), (3, 1), (4, 1), (5, 1)]) r r) r ?_
    refine lx r (opx_store r r r (by simp [Value.oneCell'])) fun _ _=>an r<|jr<|kd ?_
    exact K_ret2c rfl rfl rfl rfl () trivial rfl Ent.take
theorem Group_ok (n : Nat) (h : 1 ≤ n ∧ n ≤ 65535) : FSpec Tryz.prog 6 #[.int .i64 (n : Nat)] (emp) (fun _ : Unit => True) (fun _ => .tuple #[.agg #[.int .u8 224, .int .u8 224, .int .u8 ((n / 256 % 256 : Nat) : Int), .int .u8 ((n % 256 : Nat) : Int)], .int .i64 0]) (fun _ => emp) := by
  refine en Tryz.func6 r fun σ F=>J_emp<|sr<|al r fun b2=>an r<|js<|sa r<|lv ((opv_lss r r).bool_f (by omega)) r<|ea r<|go r<|ea r<|go r<|lv ((opv_gtr r r).bool_f (by omega)) r ?_
  first | refine ea r ?_ | refine lv (opv_pick r r r) r ?_
  refine nf r<|sk<|sr<|lv (opv_buildA (pl := [(0, 1), (1, 1), (2, 1), (3, 1)]) r r) r<|al r fun b4=>?_
  refine lx r (opx_store r r r (by simp [Value.oneCell'])) fun _ _=>nr<|ea r<|cy (two_spec n (by omega)) r fun _=>L_emp<|ea r<|lv (opv_extract (v := .int .u8 ((n / 256 % 256 : Nat) : Int)) r r) r<|lv (opv_extract (v := .int .u8 ((n % 256 : Nat) : Int)) r r) r<|lv ((opv_indexAddrA r r (by decide)).as (v' := .pointer (some (ad b4 2))) r) r ?_
  refine lx r (opx_store r r r (by simp [Value.oneCell'])) fun _ _=>lv ((opv_indexAddrA r r (by decide)).as (v' := .pointer (some (ad b4 3))) r) r ?_
  refine lx r (opx_store r r r (by simp [Value.oneCell'])) fun _ _=>nr<|ls r ?_
  refine lx r (opx_store r r r (by simp [Value.oneCell'])) fun _ _=>an r<|jr ?_
  exact K_ret2c rfl rfl rfl rfl () trivial rfl Ent.take
theorem Group_bad (n : Int) (h : ¬ (1 ≤ n ∧ n ≤ 65535)) : FSpec Tryz.prog 6 #[.int .i64 n] (emp) (fun _ : Unit => True) (fun _ => .tuple #[.agg #[.int .u8 0, .int .u8 0, .int .u8 0, .int .u8 0], .int .i64 1]) (fun _ => emp) := by
  refine en Tryz.func6 r fun σ F=>J_emp<|sr<|al r fun b2=>an r<|js<|sa r<|lv (opv_lss r r) r<|ea r ?_
  refine L_gf rfl rfl (fun h1 => ?_) (fun h1 => ?_) (fun _ h => by cases h; rfl)
  · refine ea r<|L_gf_on h1 r r<|lv (opv_gtr r r) r<|lv (opv_pick_f r h1 r) r<|nk ?_
    refine J_cond rfl (fun h2 => ?_) (fun h2 => by exfalso; omega)
    refine sr<|lv (opv_buildA (pl := [(0, 1), (1, 1), (2, 1), (3, 1)]) r r) r ?_
    refine lx r (opx_store r r r (by simp [Value.oneCell'])) fun _ _=>an r<|jr<|kd ?_
    exact K_ret2c rfl rfl rfl rfl () trivial rfl Ent.take
  · refine L_gf_off h1 rfl rfl ?_ (fun _ h => by cases h; rfl)
    refine lv (opv_pick_t r h1 r) r<|nt r<|sr<|lv (opv_buildA (pl := [(0, 1), (1, 1), (2, 1), (3, 1)]) r r) r ?_
    refine lx r (opx_store r r r (by simp [Value.oneCell'])) fun _ _=>an r<|jr<|kd ?_
    exact K_ret2c rfl rfl rfl rfl () trivial rfl Ent.take
end Go.Proofs.YtpkcniedaabpoaaGreat
