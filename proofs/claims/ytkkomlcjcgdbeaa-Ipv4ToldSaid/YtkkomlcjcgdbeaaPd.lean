/- A contract of ipv4.Decode, proved by a walk over its code; it is used by the texts that import this one. -/
import Derived.Test.YtkkomlcjcgdbeaaPc
import Derived.Test.YtkkomlcjcgdbeaaH
namespace Go.Proofs.Ytkkomlcjcgdbeaa
open Go.SLA
set_option maxRecDepth 100000
set_option linter.unusedVariables false
set_option linter.unusedSimpArgs false
attribute [local irreducible] J L K QL Rg FSpec OpV OpX Rd Back

def zeroed (s : ByteArray) : ByteArray := s.extract 0 10 ++ ⟨#[0, 0]⟩ ++ s.extract 12 20
def parseP (s : ByteArray) : Pk := ⟨(word s 4 : Nat), decide (word s 6 / 8192 % 2 = 1), ((word s 6 % 8192 : Nat) : Int), (bn s 8 : Nat), (bn s 9 : Nat), (bn s 12 : Nat), (bn s 13 : Nat), (bn s 14 : Nat), (bn s 15 : Nat), (bn s 16 : Nat), (bn s 17 : Nat), (bn s 18 : Nat), (bn s 19 : Nat), s.extract 20 (word s 2)⟩
/-- The packet at the front of bytes, or why there is none. -/
def decP (s : ByteArray) : Pk × Int := if s.size < 20 then (pkz, 10) else if bn s 0 ≠ 69 then (pkz, 13) else if bn s 1 ≠ 0 ∨ word s 2 < 20 ∨ word s 6 / 16384 % 4 ≠ 0 then (pkz, 15) else if word s 10 ≠ ones (zeroed s) then (pkz, 12) else if s.size < word s 2 then (pkz, 10) else (parseP s, 0)
theorem zeroed_size {s : ByteArray} (h : 20 ≤ s.size) : (zeroed s).size = 20 := by
  unfold zeroed
  rw [ByteArray.size_append, ByteArray.size_append, ext_size _ _ _ (by omega), ext_size _ _ _ (by omega)]
  rfl
theorem zeroed_bn {s : ByteArray} (h : 20 ≤ s.size) (i : Nat) (hi : i < 20) : bn (zeroed s) i = if i = 10 ∨ i = 11 then 0 else bn s i := by
  have h1 : (s.extract 0 10).size = 10 := ext_size _ _ _ (by omega)
  have h0 : (⟨#[0, 0]⟩ : ByteArray).size = 2 := rfl
  have h2 : (s.extract 0 10 ++ ⟨#[0, 0]⟩).size = 12 := by rw [ByteArray.size_append, h1, h0]
  unfold zeroed
  by_cases a : i < 10
  · rw [bn_app_l (by omega), bn_app_l (by omega), bn_extract (by omega) (by omega), if_neg (by omega), Nat.zero_add]
  · by_cases c : i < 12
    · rw [bn_app_l (by omega), bn_app_r (by omega), h1, if_pos (by omega)]
      rcases (show i = 10 ∨ i = 11 by omega) with rfl | rfl <;> rfl
    · rw [bn_app_r (by omega), h2, bn_extract (by omega) (by omega), if_neg (by omega), show 12 + (i - 12) = i by omega]
theorem wsum_sum {X Z : ByteArray} (hz : ∀ i, i < 20 → bn Z i = if i = 10 ∨ i = 11 then 0 else bn X i) : wsum X 20 = wsum Z 20 + (bn X 10 * 256 + bn X 11) := by
  have h10 : wsum X 10 = wsum Z 10 := wsum_congr 10 (fun i hi => by rw [hz i (by omega), if_neg (by omega)])
  have h12 : wsum X 12 = wsum Z 12 + (bn X 10 * 256 + bn X 11) := by
    show wsum X 10 + bn X 10 * 256 + bn X 11 * 1 = wsum Z 10 + bn Z 10 * 256 + bn Z 11 * 1 + _
    rw [hz 10 (by decide), hz 11 (by decide), if_pos (by decide), if_pos (by decide), h10]
    omega
  have hk : ∀ j, j ≤ 8 → wsum X (12 + j) = wsum Z (12 + j) + (bn X 10 * 256 + bn X 11) := by
    intro j
    induction j with
    | zero => intro _; exact h12
    | succ j ih =>
      intro hj
      have := ih (by omega)
      have hb : bn Z (12 + j) = bn X (12 + j) := by rw [hz (12 + j) (by omega), if_neg (by omega)]
      rw [← Nat.add_assoc, wsum, wsum, this, hb]
      omega
  exact hk 8 (Nat.le_refl _)
theorem ones_eq (s : ByteArray) : ones s = 65535 - fold (wsum s s.size) := by unfold ones; rfl
theorem sealed_zero {s : ByteArray} (h : 20 ≤ s.size) (h69 : bn s 0 = 69) (hw : word s 10 = ones (zeroed s)) : ones (s.extract 0 20) = 0 := by
  have hz := zeroed_size h
  have hx : (s.extract 0 20).size = 20 := ext_size _ _ _ h
  have hs := wsum_sum (X := s.extract 0 20) (Z := zeroed s) (fun i hi => by rw [zeroed_bn h i hi, bn_extract (by omega) h, Nat.zero_add])
  rw [bn_extract (by omega) h, bn_extract (by omega) h, Nat.zero_add, Nat.zero_add] at hs
  have hwd : word s 10 = bn s 10 * 256 + bn s 11 := by unfold word; rfl
  have hpos : 0 < wsum (zeroed s) 20 := by
    have h1 : wsum (zeroed s) 1 ≤ wsum (zeroed s) 20 := wsum_mono (by decide)
    have h2 : wsum (zeroed s) 1 = 0 + bn (zeroed s) 0 * 256 := rfl
    rw [zeroed_bn h 0 (by decide), if_neg (by decide), h69] at h2
    omega
  rw [ones_eq, hz] at hw
  rw [ones_eq, hx, hs]
  have f1 := fold_le (wsum (zeroed s) 20)
  have f2 := fold_mod (wsum (zeroed s) 20)
  have f3 := fold_pos _ hpos
  have g1 := fold_le (wsum (zeroed s) 20 + (bn s 10 * 256 + bn s 11))
  have g2 := fold_mod (wsum (zeroed s) 20 + (bn s 10 * 256 + bn s 11))
  have g3 := fold_pos (wsum (zeroed s) 20 + (bn s 10 * 256 + bn s 11)) (by omega)
  omega
theorem RU8_at (p o : Nat) (s : ByteArray) (h : o + 1 ≤ s.size) : FSpec Try.prog 44 #[.pointer (some (ad p 0))] (cel p [.string (s.extract o s.size), .int .i64 0] 84) (fun _ : Unit => True) (fun _ => .int .i64 (bn s o : Nat)) (fun _ => cel p [.string (s.extract (o + 1) s.size), .int .i64 0] 84) := by
  have h1 : 1 ≤ (s.extract o s.size).size := by rw [ext_size _ _ _ (Nat.le_refl _)]; omega
  have := RU8_spec p (s.extract o s.size) 0
  have e := textS_ok (s.extract o s.size) 1 h1
  have hn : numB ((s.extract o s.size).extract 0 1) 1 = bn s o := by
    show 0 * 256 + bn ((s.extract o s.size).extract 0 1) 0 = _
    rw [bn_extract (by omega) h1, bn_extract (by omega) (Nat.le_refl _)]
    simp
  have hz := ext_size (s.extract o s.size) 0 1 h1
  rw [nextC_ok h1, e] at this
  rw [hz, hn, ext_ext] at this
  exact this
theorem RU8_zero (p : Nat) (s : ByteArray) (h : 1 ≤ s.size) : FSpec Try.prog 44 #[.pointer (some (ad p 0))] (cel p [.string s, .int .i64 0] 84) (fun _ : Unit => True) (fun _ => .int .i64 (bn s 0 : Nat)) (fun _ => cel p [.string (s.extract 1 s.size), .int .i64 0] 84) := by
  have := RU8_at p 0 s (by omega)
  rwa [ByteArray.extract_zero_size] at this
theorem RText_at (p o k : Nat) (s : ByteArray) (h : o + k ≤ s.size) : FSpec Try.prog 47 #[.pointer (some (ad p 0)), .int .i64 (k : Nat)] (cel p [.string (s.extract o s.size), .int .i64 0] 84) (fun _ : Unit => True) (fun _ => .string (s.extract o (o + k))) (fun _ => cel p [.string (s.extract (o + k) s.size), .int .i64 0] 84) := by
  have := RText_ok p (s.extract o s.size) k (by rw [ext_size _ _ _ (Nat.le_refl _)]; omega)
  have e : (s.extract o s.size).extract 0 k = s.extract o (o + k) := by
    rw [ByteArray.extract_extract]
    congr 1
    omega
  rw [e, ext_ext] at this
  exact this
theorem Rd4 {P R : HProp} {b c e : Nat} {T : ByteArray} [Take P (byb b T c e) R] (h : T.size = 4) : ∀ (j : Nat) (u : Value), [Value.int .u8 (bn T 0 : Nat), .int .u8 (bn T 1 : Nat), .int .u8 (bn T 2 : Nat), .int .u8 (bn T 3 : Nat)][j]? = some u → Rd P b (0 + j) u := fun j u hj => by
  have hj4 : j < 4 := by
    rcases Nat.lt_or_ge j 4 with h | h
    · exact h
    · rw [List.getElem?_eq_none (by simpa using h)] at hj; cases hj
  have := Rd.byb (P := P) (b := b) (c := c) (s := T) (e := e) (j := j) (by omega)
  rw [Nat.zero_add]
  rcases (show j = 0 ∨ j = 1 ∨ j = 2 ∨ j = 3 by omega) with rfl | rfl | rfl | rfl <;> (cases hj; exact this)
theorem word_nat (s : ByteArray) (i : Nat) : word s i = bn s i * 256 + bn s (i + 1) := by unfold word; rfl
attribute [local irreducible] be ones word zeroed

theorem twice_spec (s : ByteArray) (h : 20 ≤ s.size) (hs : s.size ≤ 1000000) : FSpec Try.prog 46 #[.string s] (emp) (fun _ : Unit => True) (fun _ => .bool (decide (word s 10 ≠ ones (zeroed s)))) (fun _ => emp) := by
  have hz := zeroed_size h
  have hz0 : (⟨#[0, 0]⟩ : ByteArray).size = 2 := rfl
  refine FSpec.enter' Try.func46 rfl Try.ntmps46 rfl fun σ F => ?_
  refine J_emp ?_
  refine J_seq ?_
  refine J_region ?_
  refine L_v (opv_assign rfl) rfl ?_
  refine L_nil ?_
  refine K_then ?_
  refine J_seq ?_
  refine J_region ?_
  refine L_v (opv_move rfl) rfl ?_
  refine L_v ((opv_sliceSlo rfl rfl (by omega)).as (congrArg (fun k => Value.string (s.extract k s.size)) (show Int.toNat 10 = 10 from rfl))) rfl ?_
  refine L_x rfl (opx_call0 (Read_spec (s.extract 10 s.size)) rfl rfl rfl) (fun p _ => ?_)
  refine L_x rfl (opx_call0 (RU16_at p 10 s (by omega)) rfl rfl rfl) (fun _ _ => ?_)
  refine L_v (opv_assign rfl) rfl ?_
  refine L_nil ?_
  refine K_then ?_
  refine J_seq ?_
  refine J_quiet Try.mixed (by kernel_rfl) ?_
  refine Q_v (opv_move rfl) rfl ?_
  refine Q_v (opv_move rfl) rfl ?_
  refine Q_v ((opv_sliceShi rfl rfl (by omega)).as (congrArg (fun k => Value.string (s.extract 0 k)) (show Int.toNat 10 = 10 from rfl))) rfl ?_
  refine Q_v (opv_addS rfl rfl (by rw [ext_size _ _ _ (by omega), hz0]; decide)) rfl ?_
  refine Q_v (opv_move rfl) rfl ?_
  refine Q_v ((opv_sliceS rfl rfl rfl (by omega)).as (v' := .string (s.extract 12 20)) (by rw [show Int.toNat 12 = 12 from rfl, show Int.toNat 20 = 20 from rfl])) rfl ?_
  refine Q_v ((opv_addS rfl rfl (by rw [ByteArray.size_append, ext_size _ _ _ (by omega), ext_size _ _ _ (by omega), hz0]; decide)).as (v' := .string (zeroed s)) (by unfold zeroed; rfl)) rfl ?_
  refine Q_call (Ones_spec (zeroed s) (by omega)) rfl rfl (fun _ _ => rfl) (fun _ _ => Ent.refl _) rfl ?_
  refine Q_v ((opv_neq rfl rfl).as (v' := .bool (decide (word s 10 ≠ ones (zeroed s)))) (congrArg Value.bool (decide_eq_decide.2 (by omega)))) rfl ?_
  refine Q_v (opv_assign rfl) rfl ?_
  refine QL_nil ?_
  refine K_then ?_
  refine J_ret ?_
  exact K_ret1 rfl rfl () trivial (rfl) Ent.take

set_option maxHeartbeats 1000000 in
theorem Ip4Decode_spec (s : ByteArray) (hs : s.size ≤ 1000000) : FSpec Try.prog 26 #[.string s] (emp) (fun _ : Unit => True) (fun _ => .tuple #[.agg (encPk (decP s).1).toArray, .int .i64 (decP s).2]) (fun _ => emp) := by
  have hb0 := bn_lt s 0
  have hb1 := bn_lt s 1
  have hw2 := word_lt s 2
  have hw6 := word_lt s 6
  refine FSpec.enter' Try.func26 rfl Try.ntmps26 rfl fun σ F => ?_
  refine J_emp ?_
  refine J_seq ?_
  refine J_region ?_
  refine L_x rfl (opx_alloc rfl) (fun b2 _ => ?_)
  refine L_v (opv_assign rfl) rfl ?_
  refine L_nil ?_
  refine K_then ?_
  refine J_seq ?_
  refine J_seq ?_
  refine J_region ?_
  refine L_v (opv_move rfl) rfl ?_
  first
    | refine L_v (opv_lenL rfl) rfl ?_
    | refine L_v (opv_lenS rfl) rfl ?_
  refine L_v (opv_lss rfl rfl) rfl ?_
  refine L_nil ?_
  refine K_then ?_
  refine J_cond rfl (fun h1 => ?_) (fun h1 => ?_)
  · refine J_seq ?_
    refine J_region ?_
    refine L_v (opv_build rfl) rfl ?_
    refine L_x rfl (opx_store rfl rfl rfl (by simp [Value.oneCell'])) (fun _ _ => ?_)
    refine L_v (opv_assign rfl) rfl ?_
    refine L_nil ?_
    refine K_then ?_
    refine J_ret ?_
    refine K_then_ret ?_
    have e : decP s = (pkz, 10) := by unfold decP; rw [if_pos (by omega)]
    exact K_ret2c rfl rfl rfl rfl () trivial (by rw [e]; rfl) Ent.take
  · refine J_skip ?_
    refine K_then ?_
    refine J_seq ?_
    refine J_region ?_
    refine L_v (opv_move rfl) rfl ?_
    refine L_x rfl (opx_call0 (Read_spec s) rfl rfl rfl) (fun p _ => ?_)
    refine L_v (opv_assign rfl) rfl ?_
    refine L_nil ?_
    refine K_then ?_
    refine J_seq ?_
    refine J_region ?_
    refine L_v (opv_move rfl) rfl ?_
    refine L_x rfl (opx_call0 (RU8_zero p s (by omega)) rfl rfl rfl) (fun _ _ => ?_)
    refine L_v (opv_move rfl) rfl ?_
    refine L_x rfl (opx_call0 (RU8_at p 1 s (by omega)) rfl rfl rfl) (fun _ _ => ?_)
    refine L_v (opv_move rfl) rfl ?_
    refine L_x rfl (opx_call0 (RU16_at p 2 s (by omega)) rfl rfl rfl) (fun _ _ => ?_)
    refine L_v (opv_assign rfl) rfl ?_
    refine L_v (opv_assign rfl) rfl ?_
    refine L_v (opv_assign rfl) rfl ?_
    refine L_nil ?_
    refine K_then ?_
    refine J_seq ?_
    refine J_region ?_
    refine L_v (opv_move rfl) rfl ?_
    refine L_x rfl (opx_call0 (RU16_at p 4 s (by omega)) rfl rfl rfl) (fun _ _ => ?_)
    refine L_v (opv_build rfl) rfl ?_
    refine L_x rfl (opx_alloc rfl) (fun b8 _ => ?_)
    refine L_x rfl (opx_store rfl rfl rfl (by simp [Value.oneCell'])) (fun _ _ => ?_)
    refine L_nil ?_
    refine K_then ?_
    refine J_seq ?_
    refine J_region ?_
    refine L_v (opv_move rfl) rfl ?_
    refine L_x rfl (opx_call0 (parts_spec) rfl rfl rfl) (fun b26 _ => ?_)
    refine L_x rfl (opx_call0 (RBits3 p b26 s (by omega)) rfl rfl rfl) (fun rl _ => ?_)
    refine L_v (opv_assign rfl) rfl ?_
    refine L_nil ?_
    refine K_then ?_
    refine J_seq ?_
    refine J_seq ?_
    obtain ⟨Al, cl⟩ := rl
    refine J_know (fun w hs => own_nonnil (Sat.ent hs (Ent.takes (Q := Own 3 1 (.slice Al 3 cl) 3 [.int .i64 ((word s 6 / 16384 % 4 : Nat) : Int), .int .i64 ((word s 6 / 8192 % 2 : Nat) : Int), .int .i64 ((word s 6 % 8192 : Nat) : Int)])))) fun hA => ?_
    obtain ⟨bl, ol, rfl⟩ : ∃ b o, Al = some (ad b o) := by rcases hA with ⟨_, _, h, _⟩ | h; cases h; exact h
    refine J_region ?_
    refine L_v (opv_move rfl) rfl ?_
    first
      | refine L_v (opv_neq rfl rfl) rfl ?_
      | refine L_v (opv_neqS rfl rfl) rfl ?_
      | refine L_v (opv_neqNil rfl rfl) rfl ?_
      | refine L_v (opv_neqB rfl rfl) rfl ?_
    refine L_nil ?_
    refine K_then ?_
    refine J_cond rfl (fun h2 => ?_) (fun h2 => ?_)
    · refine J_seq ?_
      refine J_region ?_
      refine L_v (opv_build rfl) rfl ?_
      refine L_x rfl (opx_store rfl rfl rfl (by simp [Value.oneCell'])) (fun _ _ => ?_)
      refine L_v (opv_assign rfl) rfl ?_
      refine L_nil ?_
      refine K_then ?_
      refine J_ret ?_
      refine K_then_ret ?_
      have e : decP s = (pkz, 13) := by unfold decP; rw [if_neg (by omega), if_pos (by omega)]
      exact K_ret2c rfl rfl rfl rfl () trivial (by rw [e]; rfl) Ent.take
    · refine J_skip ?_
      refine K_then ?_
      refine J_seq ?_
      refine J_seq ?_
      refine J_region ?_
      refine L_v (opv_move rfl) rfl ?_
      first
        | refine L_v (opv_neq rfl rfl) rfl ?_
        | refine L_v (opv_neqS rfl rfl) rfl ?_
        | refine L_v (opv_neqNil rfl rfl) rfl ?_
        | refine L_v (opv_neqB rfl rfl) rfl ?_
      refine L_v (opv_move rfl) rfl ?_
      refine L_gf rfl rfl (fun h3 => ?_) (fun h3 => ?_) (fun _ h => by cases h; rfl)
      · refine L_v (opv_move rfl) rfl ?_
        refine L_gf_on h3 rfl rfl ?_
        refine L_v (opv_lss rfl rfl) rfl ?_
        refine L_v (opv_pick_f rfl h3 rfl) rfl ?_
        refine L_v (opv_move rfl) rfl ?_
        refine L_gf rfl rfl (fun h4 => ?_) (fun h4 => ?_) (fun _ h => by cases h; rfl)
        · refine L_v (opv_move rfl) rfl ?_
          refine L_gf_on h4 rfl rfl ?_
          first
            | refine L_v (opv_lenL rfl) rfl ?_
            | refine L_v (opv_lenS rfl) rfl ?_
          refine L_gf_on h4 rfl rfl ?_
          refine L_x rfl (opx_call0 (parts_spec) rfl rfl rfl) (fun b40 _ => ?_)
          refine L_gf_on h4 rfl rfl ?_
          first
            | refine L_v (opv_lenL rfl) rfl ?_
            | refine L_v (opv_lenS rfl) rfl ?_
          refine L_gf_on h4 rfl rfl ?_
          refine L_v ((opv_neq rfl rfl).bool_f (by decide)) rfl ?_
          refine L_v (opv_pick_f rfl h4 rfl) rfl ?_
          refine L_v (opv_move rfl) rfl ?_
          refine L_gon rfl rfl rfl ?_
          refine L_v (opv_move rfl) rfl ?_
          refine L_gon rfl rfl rfl ?_
          first
            | refine L_v (opv_indexAddr rfl rfl (by omega)) rfl ?_
            | refine L_v (opv_indexAddrA rfl rfl (by omega)) rfl ?_
          refine L_gon rfl rfl rfl ?_
          refine L_v (opv_load rfl (Rd.of_take (S := Own 3 1 (.slice (some (ad bl ol)) 3 cl) 3 [.int .i64 ((word s 6 / 16384 % 4 : Nat) : Int), .int .i64 ((word s 6 / 8192 % 2 : Nat) : Int), .int .i64 ((word s 6 % 8192 : Nat) : Int)]) (Rd.own (j := 0) rfl))) rfl ?_
          refine L_gon rfl rfl rfl ?_
          first
            | refine L_v (opv_neq rfl rfl) rfl ?_
            | refine L_v (opv_neqS rfl rfl) rfl ?_
            | refine L_v (opv_neqNil rfl rfl) rfl ?_
            | refine L_v (opv_neqB rfl rfl) rfl ?_
          first
            | refine L_v (opv_pick_tt rfl rfl) rfl ?_
            | refine L_v (opv_pick_ff rfl rfl) rfl ?_
            | refine L_v (opv_pick rfl rfl rfl) rfl ?_
          refine L_nil ?_
          refine K_then ?_
          refine J_cond rfl (fun h5 => ?_) (fun h5 => ?_)
          · refine J_seq ?_
            refine J_region ?_
            refine L_v (opv_build rfl) rfl ?_
            refine L_x rfl (opx_store rfl rfl rfl (by simp [Value.oneCell'])) (fun _ _ => ?_)
            refine L_v (opv_assign rfl) rfl ?_
            refine L_nil ?_
            refine K_then ?_
            refine J_ret ?_
            refine K_then_ret ?_
            have e : decP s = (pkz, 15) := by unfold decP; rw [if_neg (by omega), if_neg (by omega), if_pos (by omega)]
            exact K_ret2c rfl rfl rfl rfl () trivial (by rw [e]; rfl) Ent.take
          · refine J_skip ?_
            refine K_then ?_
            refine J_seq ?_
            refine J_steps (Own 3 1 (.slice (some (ad bl ol)) 3 cl) 3 [.int .i64 ((word s 6 / 16384 % 4 : Nat) : Int), .int .i64 ((word s 6 / 8192 % 2 : Nat) : Int), .int .i64 ((word s 6 % 8192 : Nat) : Int)]) (Own 3 1 (.slice (some (ad bl ol)) 3 cl) 3 [.int .i64 ((word s 6 / 16384 % 4 : Nat) : Int), .int .i64 ((word s 6 / 8192 % 2 : Nat) : Int), .int .i64 ((word s 6 % 8192 : Nat) : Int)]) [] Try.mixed ?_
            refine R_pure 0 rfl (by kernel_rfl) (by kernel_rfl) (by kernel_rfl) (by kernel_rfl) (.inr ⟨_, Take.eq (A := Own 3 1 (.slice (some (ad bl ol)) 3 cl) 3 [.int .i64 ((word s 6 / 16384 % 4 : Nat) : Int), .int .i64 ((word s 6 / 8192 % 2 : Nat) : Int), .int .i64 ((word s 6 % 8192 : Nat) : Int)])⟩) (opv_move rfl) rfl ?_
            first
              | refine R_pure 1 rfl (by kernel_rfl) (by kernel_rfl) (by kernel_rfl) (by kernel_rfl) (.inr ⟨_, Take.eq (A := Own 3 1 (.slice (some (ad bl ol)) 3 cl) 3 [.int .i64 ((word s 6 / 16384 % 4 : Nat) : Int), .int .i64 ((word s 6 / 8192 % 2 : Nat) : Int), .int .i64 ((word s 6 % 8192 : Nat) : Int)])⟩) (opv_indexAddr rfl rfl (by omega)) rfl ?_
              | refine R_pure 1 rfl (by kernel_rfl) (by kernel_rfl) (by kernel_rfl) (by kernel_rfl) (.inr ⟨_, Take.eq (A := Own 3 1 (.slice (some (ad bl ol)) 3 cl) 3 [.int .i64 ((word s 6 / 16384 % 4 : Nat) : Int), .int .i64 ((word s 6 / 8192 % 2 : Nat) : Int), .int .i64 ((word s 6 % 8192 : Nat) : Int)])⟩) (opv_indexAddrA rfl rfl (by omega)) rfl ?_
            refine R_take 2 rfl (by kernel_rfl) (by kernel_rfl) (by kernel_rfl) (by kernel_rfl) (by kernel_rfl) (opv_load rfl (Rd.of_take (S := Own 3 1 (.slice (some (ad bl ol)) 3 cl) 3 [.int .i64 ((word s 6 / 16384 % 4 : Nat) : Int), .int .i64 ((word s 6 / 8192 % 2 : Nat) : Int), .int .i64 ((word s 6 % 8192 : Nat) : Int)]) (Rd.own (j := 1) rfl))) rfl ?_
            refine R_pure 3 rfl (by kernel_rfl) (by kernel_rfl) (by kernel_rfl) (by kernel_rfl) (.inr ⟨_, Take.eq (A := Own 3 1 (.slice (some (ad bl ol)) 3 cl) 3 [.int .i64 ((word s 6 / 16384 % 4 : Nat) : Int), .int .i64 ((word s 6 / 8192 % 2 : Nat) : Int), .int .i64 ((word s 6 % 8192 : Nat) : Int)])⟩) ((opv_eql rfl rfl).as (v' := .bool (decide (word s 6 / 8192 % 2 = 1))) (congrArg Value.bool (decide_eq_decide.2 (by omega)))) rfl ?_
            refine R_pure 4 rfl (by kernel_rfl) (by kernel_rfl) (by kernel_rfl) (by kernel_rfl) (.inr ⟨_, Take.eq (A := Own 3 1 (.slice (some (ad bl ol)) 3 cl) 3 [.int .i64 ((word s 6 / 16384 % 4 : Nat) : Int), .int .i64 ((word s 6 / 8192 % 2 : Nat) : Int), .int .i64 ((word s 6 % 8192 : Nat) : Int)])⟩) (opv_move rfl) rfl ?_
            first
              | refine R_pure 5 rfl (by kernel_rfl) (by kernel_rfl) (by kernel_rfl) (by kernel_rfl) (.inr ⟨_, Take.eq (A := Own 3 1 (.slice (some (ad bl ol)) 3 cl) 3 [.int .i64 ((word s 6 / 16384 % 4 : Nat) : Int), .int .i64 ((word s 6 / 8192 % 2 : Nat) : Int), .int .i64 ((word s 6 % 8192 : Nat) : Int)])⟩) (opv_indexAddr rfl rfl (by omega)) rfl ?_
              | refine R_pure 5 rfl (by kernel_rfl) (by kernel_rfl) (by kernel_rfl) (by kernel_rfl) (.inr ⟨_, Take.eq (A := Own 3 1 (.slice (some (ad bl ol)) 3 cl) 3 [.int .i64 ((word s 6 / 16384 % 4 : Nat) : Int), .int .i64 ((word s 6 / 8192 % 2 : Nat) : Int), .int .i64 ((word s 6 % 8192 : Nat) : Int)])⟩) (opv_indexAddrA rfl rfl (by omega)) rfl ?_
            refine R_take 6 rfl (by kernel_rfl) (by kernel_rfl) (by kernel_rfl) (by kernel_rfl) (by kernel_rfl) (opv_load rfl (Rd.of_take (S := Own 3 1 (.slice (some (ad bl ol)) 3 cl) 3 [.int .i64 ((word s 6 / 16384 % 4 : Nat) : Int), .int .i64 ((word s 6 / 8192 % 2 : Nat) : Int), .int .i64 ((word s 6 % 8192 : Nat) : Int)]) (Rd.own (j := 2) rfl))) rfl ?_
            first
              | refine R_pure 7 rfl (by kernel_rfl) (by kernel_rfl) (by kernel_rfl) (by kernel_rfl) (.inr ⟨_, Take.eq (A := Own 3 1 (.slice (some (ad bl ol)) 3 cl) 3 [.int .i64 ((word s 6 / 16384 % 4 : Nat) : Int), .int .i64 ((word s 6 / 8192 % 2 : Nat) : Int), .int .i64 ((word s 6 % 8192 : Nat) : Int)])⟩) (opv_fieldAddr0 rfl) rfl ?_
              | refine R_pure 7 rfl (by kernel_rfl) (by kernel_rfl) (by kernel_rfl) (by kernel_rfl) (.inr ⟨_, Take.eq (A := Own 3 1 (.slice (some (ad bl ol)) 3 cl) 3 [.int .i64 ((word s 6 / 16384 % 4 : Nat) : Int), .int .i64 ((word s 6 / 8192 % 2 : Nat) : Int), .int .i64 ((word s 6 % 8192 : Nat) : Int)])⟩) (opv_fieldAddr rfl) rfl ?_
            refine R_only 8 rfl rfl (by kernel_rfl) (opx_store rfl rfl rfl (by simp [Value.oneCell'])) (fun _ _ => ⟨_, Take.eq (A := Own 3 1 (.slice (some (ad bl ol)) 3 cl) 3 [.int .i64 ((word s 6 / 16384 % 4 : Nat) : Int), .int .i64 ((word s 6 / 8192 % 2 : Nat) : Int), .int .i64 ((word s 6 % 8192 : Nat) : Int)])⟩) (.inr fun _ _ => ⟨_, Take.eq (A := Own 3 1 (.slice (some (ad bl ol)) 3 cl) 3 [.int .i64 ((word s 6 / 16384 % 4 : Nat) : Int), .int .i64 ((word s 6 / 8192 % 2 : Nat) : Int), .int .i64 ((word s 6 % 8192 : Nat) : Int)])⟩) (fun _ _ => ?_)
            first
              | refine R_pure 9 rfl (by kernel_rfl) (by kernel_rfl) (by kernel_rfl) (by kernel_rfl) (.inr ⟨_, Take.eq (A := Own 3 1 (.slice (some (ad bl ol)) 3 cl) 3 [.int .i64 ((word s 6 / 16384 % 4 : Nat) : Int), .int .i64 ((word s 6 / 8192 % 2 : Nat) : Int), .int .i64 ((word s 6 % 8192 : Nat) : Int)])⟩) (opv_fieldAddr0 rfl) rfl ?_
              | refine R_pure 9 rfl (by kernel_rfl) (by kernel_rfl) (by kernel_rfl) (by kernel_rfl) (.inr ⟨_, Take.eq (A := Own 3 1 (.slice (some (ad bl ol)) 3 cl) 3 [.int .i64 ((word s 6 / 16384 % 4 : Nat) : Int), .int .i64 ((word s 6 / 8192 % 2 : Nat) : Int), .int .i64 ((word s 6 % 8192 : Nat) : Int)])⟩) (opv_fieldAddr rfl) rfl ?_
            refine R_only 10 rfl rfl (by kernel_rfl) (opx_store rfl rfl rfl (by simp [Value.oneCell'])) (fun _ _ => ⟨_, Take.eq (A := Own 3 1 (.slice (some (ad bl ol)) 3 cl) 3 [.int .i64 ((word s 6 / 16384 % 4 : Nat) : Int), .int .i64 ((word s 6 / 8192 % 2 : Nat) : Int), .int .i64 ((word s 6 % 8192 : Nat) : Int)])⟩) (.inr fun _ _ => ⟨_, Take.eq (A := Own 3 1 (.slice (some (ad bl ol)) 3 cl) 3 [.int .i64 ((word s 6 / 16384 % 4 : Nat) : Int), .int .i64 ((word s 6 / 8192 % 2 : Nat) : Int), .int .i64 ((word s 6 % 8192 : Nat) : Int)])⟩) (fun _ _ => ?_)
            refine R_done (by kernel_rfl) ?_
            refine K_then ?_
            refine J_seq ?_
            refine J_region ?_
            refine L_v (opv_move rfl) rfl ?_
            refine L_x rfl (opx_call0 (RU8_at p 8 s (by omega)) rfl rfl rfl) (fun _ _ => ?_)
            refine L_v (opv_move rfl) rfl ?_
            refine L_x rfl (opx_call0 (RU8_at p 9 s (by omega)) rfl rfl rfl) (fun _ _ => ?_)
            first
              | refine L_v (opv_fieldAddr0 rfl) rfl ?_
              | refine L_v (opv_fieldAddr rfl) rfl ?_
            refine L_x rfl (opx_store rfl rfl rfl (by simp [Value.oneCell'])) (fun _ _ => ?_)
            first
              | refine L_v (opv_fieldAddr0 rfl) rfl ?_
              | refine L_v (opv_fieldAddr rfl) rfl ?_
            refine L_x rfl (opx_store rfl rfl rfl (by simp [Value.oneCell'])) (fun _ _ => ?_)
            refine L_nil ?_
            refine K_then ?_
            refine J_seq ?_
            refine J_seq ?_
            refine J_region ?_
            refine L_v (opv_move rfl) rfl ?_
            refine L_v ((opv_sliceShi rfl rfl (by omega)).as (congrArg (fun k => Value.string (s.extract 0 k)) (show Int.toNat 20 = 20 from rfl))) rfl ?_
            refine L_x rfl (opx_call0 (Ones_spec (s.extract 0 20) (by rw [ext_size _ _ _ (by omega)]; decide)) rfl rfl rfl) (fun _ _ => ?_)
            refine L_emp ?_
            refine L_v ((opv_neq rfl rfl).as (v' := .bool (decide (ones (s.extract 0 20) ≠ 0))) (congrArg Value.bool (decide_eq_decide.2 (by omega)))) rfl ?_
            refine L_v (opv_move rfl) rfl ?_
            refine L_gf rfl rfl (fun h6 => ?_) (fun h6 => ?_) (fun _ h => by cases h; rfl)
            · refine L_v (opv_move rfl) rfl ?_
              refine L_gf_on h6 rfl rfl ?_
              refine L_x rfl (opx_call0 (twice_spec s (by omega) hs) rfl rfl rfl) (fun _ _ => ?_)
              refine L_emp ?_
              refine L_v (opv_pick_f rfl h6 rfl) rfl ?_
              refine L_nil ?_
              refine K_then ?_
              refine J_cond rfl (fun h7 => ?_) (fun h7 => ?_)
              · refine J_seq ?_
                refine J_region ?_
                refine L_v (opv_build rfl) rfl ?_
                refine L_x rfl (opx_store rfl rfl rfl (by simp [Value.oneCell'])) (fun _ _ => ?_)
                refine L_v (opv_assign rfl) rfl ?_
                refine L_nil ?_
                refine K_then ?_
                refine J_ret ?_
                refine K_then_ret ?_
                have e : decP s = (pkz, 12) := by unfold decP; rw [if_neg (by omega), if_neg (by omega), if_neg (by omega), if_pos (by first | assumption | exact fun e => absurd (sealed_zero (by omega) (by omega) e) (by assumption))]
                exact K_ret2c rfl rfl rfl rfl () trivial (by rw [e]; rfl) Ent.take
              · refine J_skip ?_
                refine K_then ?_
                refine J_seq ?_
                refine J_region ?_
                refine L_v (opv_move rfl) rfl ?_
                refine L_x rfl (opx_call0 (RU16_at p 10 s (by omega)) rfl rfl rfl) (fun _ _ => ?_)
                refine L_nil ?_
                refine K_then ?_
                refine J_cut (X := Unit) (fun _ => [(0, .string s), (2, .pointer (some (ad b2 0))), (7, .int .i64 (word s 2 : Nat)), (8, .pointer (some (ad b8 0)))]) (fun _ => (sep (cel b8 [.int .i64 (word s 4 : Nat), .bool (decide (word s 6 / 8192 % 2 = 1)), .int .i64 ((word s 6 % 8192 : Nat) : Int), .int .i64 (bn s 8 : Nat), .int .i64 (bn s 9 : Nat), .int .u8 (bn s 12 : Nat), .int .u8 (bn s 13 : Nat), .int .u8 (bn s 14 : Nat), .int .u8 (bn s 15 : Nat), .int .u8 (bn s 16 : Nat), .int .u8 (bn s 17 : Nat), .int .u8 (bn s 18 : Nat), .int .u8 (bn s 19 : Nat), .string ⟨#[]⟩] 41) (sep (cel b2 [.int .i64 0, .bool false, .int .i64 0, .int .i64 0, .int .i64 0, .int .u8 0, .int .u8 0, .int .u8 0, .int .u8 0, .int .u8 0, .int .u8 0, .int .u8 0, .int .u8 0, .string ⟨#[]⟩] 41) (F)))) (fun _ => True) ?_ (fun _ _ => ?_)
                · refine J_steps (emp) (emp) [] Try.mixed ?_
                  refine R_pure 0 rfl (by kernel_rfl) (by kernel_rfl) (by kernel_rfl) (by kernel_rfl) (.inr ⟨_, Take.eq (A := emp)⟩) (opv_move rfl) rfl ?_
                  refine R_pure 5 rfl (by kernel_rfl) (by kernel_rfl) (by kernel_rfl) (by kernel_rfl) (.inr ⟨_, Take.eq (A := emp)⟩) (opv_move rfl) rfl ?_
                  refine R_only 1 rfl rfl (by kernel_rfl) (opx_call0 (RText_at p 12 4 s (by omega)) rfl rfl rfl) (fun _ _ => ⟨_, Take.eq (A := emp)⟩) (.inr fun _ _ => ⟨_, Take.eq (A := emp)⟩) (fun _ _ => ?_)
                  refine R_all [2, 6] (by kernel_rfl) rfl fun i hi => ?_
                  simp only [List.mem_cons, List.not_mem_nil, or_false] at hi
                  rcases hi with rfl | rfl
                  · refine ⟨_, _, _, _, _, rfl, rfl, (opx_s2b rfl rfl), fun y79 _ => ⟨⟨_, Take.eq (A := emp)⟩, .inr ⟨_, Take.eq (A := emp)⟩, ?_⟩⟩
                    refine R_pure 3 rfl (by kernel_rfl) (by kernel_rfl) (by kernel_rfl) (by kernel_rfl) (.inr ⟨_, Take.eq (A := emp)⟩) (opv_s2a rfl (by rw [ext_size _ _ _ (by omega)]; decide)) rfl ?_
                    refine R_all [4, 6] (by kernel_rfl) rfl fun i hi => ?_
                    simp only [List.mem_cons, List.not_mem_nil, or_false] at hi
                    rcases hi with rfl | rfl
                    · refine ⟨_, _, _, _, _, rfl, rfl, (((opv_loadN (vs := [.int .u8 (bn (s.extract 12 (12 + 4)) 0 : Nat), .int .u8 (bn (s.extract 12 (12 + 4)) 1 : Nat), .int .u8 (bn (s.extract 12 (12 + 4)) 2 : Nat), .int .u8 (bn (s.extract 12 (12 + 4)) 3 : Nat)]) rfl rfl (Rd4 (c := y79.2) (e := 5) (T := (s.extract 12 (12 + 4))) (ext_size _ _ _ (by omega)))).as (v' := .agg [.int .u8 (bn s 12 : Nat), .int .u8 (bn s 13 : Nat), .int .u8 (bn s 14 : Nat), .int .u8 (bn s 15 : Nat)].toArray) (by rw [bn_extract (by omega) (by omega), bn_extract (by omega) (by omega), bn_extract (by omega) (by omega), bn_extract (by omega) (by omega)])).opx rfl rfl), fun _ _ => ⟨⟨_, Take.eq (A := emp)⟩, .inr ⟨_, Take.eq (A := emp)⟩, ?_⟩⟩
                      first
                        | refine R_pure 10 rfl (by kernel_rfl) (by kernel_rfl) (by kernel_rfl) (by kernel_rfl) (.inr ⟨_, Take.eq (A := emp)⟩) (opv_fieldAddr0 rfl) rfl ?_
                        | refine R_pure 10 rfl (by kernel_rfl) (by kernel_rfl) (by kernel_rfl) (by kernel_rfl) (.inr ⟨_, Take.eq (A := emp)⟩) (opv_fieldAddr rfl) rfl ?_
                      refine R_only 6 rfl rfl (by kernel_rfl) (opx_call0 (RText_at p 16 4 s (by omega)) rfl rfl rfl) (fun _ _ => ⟨_, Take.eq (A := emp)⟩) (.inr fun _ _ => ⟨_, Take.eq (A := emp)⟩) (fun _ _ => ?_)
                      refine R_all [7, 11] (by kernel_rfl) rfl fun i hi => ?_
                      simp only [List.mem_cons, List.not_mem_nil, or_false] at hi
                      rcases hi with rfl | rfl
                      · refine ⟨_, _, _, _, _, rfl, rfl, (opx_s2b rfl rfl), fun y84 _ => ⟨⟨_, Take.eq (A := emp)⟩, .inr ⟨_, Take.eq (A := emp)⟩, ?_⟩⟩
                        refine R_pure 8 rfl (by kernel_rfl) (by kernel_rfl) (by kernel_rfl) (by kernel_rfl) (.inr ⟨_, Take.eq (A := emp)⟩) (opv_s2a rfl (by rw [ext_size _ _ _ (by omega)]; decide)) rfl ?_
                        refine R_all [9, 11] (by kernel_rfl) rfl fun i hi => ?_
                        simp only [List.mem_cons, List.not_mem_nil, or_false] at hi
                        rcases hi with rfl | rfl
                        · refine ⟨_, _, _, _, _, rfl, rfl, (((opv_loadN (vs := [.int .u8 (bn (s.extract 16 (16 + 4)) 0 : Nat), .int .u8 (bn (s.extract 16 (16 + 4)) 1 : Nat), .int .u8 (bn (s.extract 16 (16 + 4)) 2 : Nat), .int .u8 (bn (s.extract 16 (16 + 4)) 3 : Nat)]) rfl rfl (Rd4 (c := y84.2) (e := 5) (T := (s.extract 16 (16 + 4))) (ext_size _ _ _ (by omega)))).as (v' := .agg [.int .u8 (bn s 16 : Nat), .int .u8 (bn s 17 : Nat), .int .u8 (bn s 18 : Nat), .int .u8 (bn s 19 : Nat)].toArray) (by rw [bn_extract (by omega) (by omega), bn_extract (by omega) (by omega), bn_extract (by omega) (by omega), bn_extract (by omega) (by omega)])).opx rfl rfl), fun _ _ => ⟨⟨_, Take.eq (A := emp)⟩, .inr ⟨_, Take.eq (A := emp)⟩, ?_⟩⟩
                          refine R_only 11 rfl rfl (by kernel_rfl) (opx_store rfl rfl rfl (by simp [Value.oneCell'])) (fun _ _ => ⟨_, Take.eq (A := emp)⟩) (.inr fun _ _ => ⟨_, Take.eq (A := emp)⟩) (fun _ _ => ?_)
                          first
                            | refine R_pure 12 rfl (by kernel_rfl) (by kernel_rfl) (by kernel_rfl) (by kernel_rfl) (.inr ⟨_, Take.eq (A := emp)⟩) (opv_fieldAddr0 rfl) rfl ?_
                            | refine R_pure 12 rfl (by kernel_rfl) (by kernel_rfl) (by kernel_rfl) (by kernel_rfl) (.inr ⟨_, Take.eq (A := emp)⟩) (opv_fieldAddr rfl) rfl ?_
                          refine R_only 13 rfl rfl (by kernel_rfl) (opx_store rfl rfl rfl (by simp [Value.oneCell'])) (fun _ _ => ⟨_, Take.eq (A := emp)⟩) (.inr fun _ _ => ⟨_, Take.eq (A := emp)⟩) (fun _ _ => ?_)
                          refine R_done (by kernel_rfl) ?_
                          exact K_cut () trivial ⟨rfl, rfl, rfl, rfl, trivial⟩ Ent.take
                        · refine ⟨_, _, _, _, _, rfl, rfl, (opx_store rfl rfl rfl (by simp [Value.oneCell'])), fun _ _ => ⟨⟨_, Take.eq (A := emp)⟩, .inr ⟨_, Take.eq (A := emp)⟩, ?_⟩⟩
                          refine R_only 9 rfl rfl (by kernel_rfl) (((opv_loadN (vs := [.int .u8 (bn (s.extract 16 (16 + 4)) 0 : Nat), .int .u8 (bn (s.extract 16 (16 + 4)) 1 : Nat), .int .u8 (bn (s.extract 16 (16 + 4)) 2 : Nat), .int .u8 (bn (s.extract 16 (16 + 4)) 3 : Nat)]) rfl rfl (Rd4 (c := y84.2) (e := 5) (T := (s.extract 16 (16 + 4))) (ext_size _ _ _ (by omega)))).as (v' := .agg [.int .u8 (bn s 16 : Nat), .int .u8 (bn s 17 : Nat), .int .u8 (bn s 18 : Nat), .int .u8 (bn s 19 : Nat)].toArray) (by rw [bn_extract (by omega) (by omega), bn_extract (by omega) (by omega), bn_extract (by omega) (by omega), bn_extract (by omega) (by omega)])).opx rfl rfl) (fun _ _ => ⟨_, Take.eq (A := emp)⟩) (.inr fun _ _ => ⟨_, Take.eq (A := emp)⟩) (fun _ _ => ?_)
                          first
                            | refine R_pure 12 rfl (by kernel_rfl) (by kernel_rfl) (by kernel_rfl) (by kernel_rfl) (.inr ⟨_, Take.eq (A := emp)⟩) (opv_fieldAddr0 rfl) rfl ?_
                            | refine R_pure 12 rfl (by kernel_rfl) (by kernel_rfl) (by kernel_rfl) (by kernel_rfl) (.inr ⟨_, Take.eq (A := emp)⟩) (opv_fieldAddr rfl) rfl ?_
                          refine R_only 13 rfl rfl (by kernel_rfl) (opx_store rfl rfl rfl (by simp [Value.oneCell'])) (fun _ _ => ⟨_, Take.eq (A := emp)⟩) (.inr fun _ _ => ⟨_, Take.eq (A := emp)⟩) (fun _ _ => ?_)
                          refine R_done (by kernel_rfl) ?_
                          exact K_cut () trivial ⟨rfl, rfl, rfl, rfl, trivial⟩ Ent.take
                      · refine ⟨_, _, _, _, _, rfl, rfl, (opx_store rfl rfl rfl (by simp [Value.oneCell'])), fun _ _ => ⟨⟨_, Take.eq (A := emp)⟩, .inr ⟨_, Take.eq (A := emp)⟩, ?_⟩⟩
                        refine R_only 7 rfl rfl (by kernel_rfl) (opx_s2b rfl rfl) (fun _ _ => ⟨_, Take.eq (A := emp)⟩) (.inr fun _ _ => ⟨_, Take.eq (A := emp)⟩) (fun y84 _ => ?_)
                        refine R_pure 8 rfl (by kernel_rfl) (by kernel_rfl) (by kernel_rfl) (by kernel_rfl) (.inr ⟨_, Take.eq (A := emp)⟩) (opv_s2a rfl (by rw [ext_size _ _ _ (by omega)]; decide)) rfl ?_
                        refine R_only 9 rfl rfl (by kernel_rfl) (((opv_loadN (vs := [.int .u8 (bn (s.extract 16 (16 + 4)) 0 : Nat), .int .u8 (bn (s.extract 16 (16 + 4)) 1 : Nat), .int .u8 (bn (s.extract 16 (16 + 4)) 2 : Nat), .int .u8 (bn (s.extract 16 (16 + 4)) 3 : Nat)]) rfl rfl (Rd4 (c := y84.2) (e := 5) (T := (s.extract 16 (16 + 4))) (ext_size _ _ _ (by omega)))).as (v' := .agg [.int .u8 (bn s 16 : Nat), .int .u8 (bn s 17 : Nat), .int .u8 (bn s 18 : Nat), .int .u8 (bn s 19 : Nat)].toArray) (by rw [bn_extract (by omega) (by omega), bn_extract (by omega) (by omega), bn_extract (by omega) (by omega), bn_extract (by omega) (by omega)])).opx rfl rfl) (fun _ _ => ⟨_, Take.eq (A := emp)⟩) (.inr fun _ _ => ⟨_, Take.eq (A := emp)⟩) (fun _ _ => ?_)
                        first
                          | refine R_pure 12 rfl (by kernel_rfl) (by kernel_rfl) (by kernel_rfl) (by kernel_rfl) (.inr ⟨_, Take.eq (A := emp)⟩) (opv_fieldAddr0 rfl) rfl ?_
                          | refine R_pure 12 rfl (by kernel_rfl) (by kernel_rfl) (by kernel_rfl) (by kernel_rfl) (.inr ⟨_, Take.eq (A := emp)⟩) (opv_fieldAddr rfl) rfl ?_
                        refine R_only 13 rfl rfl (by kernel_rfl) (opx_store rfl rfl rfl (by simp [Value.oneCell'])) (fun _ _ => ⟨_, Take.eq (A := emp)⟩) (.inr fun _ _ => ⟨_, Take.eq (A := emp)⟩) (fun _ _ => ?_)
                        refine R_done (by kernel_rfl) ?_
                        exact K_cut () trivial ⟨rfl, rfl, rfl, rfl, trivial⟩ Ent.take
                    · refine ⟨_, _, _, _, _, rfl, rfl, (opx_call0 (RText_at p 16 4 s (by omega)) rfl rfl rfl), fun _ _ => ⟨⟨_, Take.eq (A := emp)⟩, .inr ⟨_, Take.eq (A := emp)⟩, ?_⟩⟩
                      refine R_all [4, 7] (by kernel_rfl) rfl fun i hi => ?_
                      simp only [List.mem_cons, List.not_mem_nil, or_false] at hi
                      rcases hi with rfl | rfl
                      · refine ⟨_, _, _, _, _, rfl, rfl, (((opv_loadN (vs := [.int .u8 (bn (s.extract 12 (12 + 4)) 0 : Nat), .int .u8 (bn (s.extract 12 (12 + 4)) 1 : Nat), .int .u8 (bn (s.extract 12 (12 + 4)) 2 : Nat), .int .u8 (bn (s.extract 12 (12 + 4)) 3 : Nat)]) rfl rfl (Rd4 (c := y79.2) (e := 5) (T := (s.extract 12 (12 + 4))) (ext_size _ _ _ (by omega)))).as (v' := .agg [.int .u8 (bn s 12 : Nat), .int .u8 (bn s 13 : Nat), .int .u8 (bn s 14 : Nat), .int .u8 (bn s 15 : Nat)].toArray) (by rw [bn_extract (by omega) (by omega), bn_extract (by omega) (by omega), bn_extract (by omega) (by omega), bn_extract (by omega) (by omega)])).opx rfl rfl), fun _ _ => ⟨⟨_, Take.eq (A := emp)⟩, .inr ⟨_, Take.eq (A := emp)⟩, ?_⟩⟩
                        first
                          | refine R_pure 10 rfl (by kernel_rfl) (by kernel_rfl) (by kernel_rfl) (by kernel_rfl) (.inr ⟨_, Take.eq (A := emp)⟩) (opv_fieldAddr0 rfl) rfl ?_
                          | refine R_pure 10 rfl (by kernel_rfl) (by kernel_rfl) (by kernel_rfl) (by kernel_rfl) (.inr ⟨_, Take.eq (A := emp)⟩) (opv_fieldAddr rfl) rfl ?_
                        refine R_all [7, 11] (by kernel_rfl) rfl fun i hi => ?_
                        simp only [List.mem_cons, List.not_mem_nil, or_false] at hi
                        rcases hi with rfl | rfl
                        · refine ⟨_, _, _, _, _, rfl, rfl, (opx_s2b rfl rfl), fun y84 _ => ⟨⟨_, Take.eq (A := emp)⟩, .inr ⟨_, Take.eq (A := emp)⟩, ?_⟩⟩
                          refine R_pure 8 rfl (by kernel_rfl) (by kernel_rfl) (by kernel_rfl) (by kernel_rfl) (.inr ⟨_, Take.eq (A := emp)⟩) (opv_s2a rfl (by rw [ext_size _ _ _ (by omega)]; decide)) rfl ?_
                          refine R_all [9, 11] (by kernel_rfl) rfl fun i hi => ?_
                          simp only [List.mem_cons, List.not_mem_nil, or_false] at hi
                          rcases hi with rfl | rfl
                          · refine ⟨_, _, _, _, _, rfl, rfl, (((opv_loadN (vs := [.int .u8 (bn (s.extract 16 (16 + 4)) 0 : Nat), .int .u8 (bn (s.extract 16 (16 + 4)) 1 : Nat), .int .u8 (bn (s.extract 16 (16 + 4)) 2 : Nat), .int .u8 (bn (s.extract 16 (16 + 4)) 3 : Nat)]) rfl rfl (Rd4 (c := y84.2) (e := 5) (T := (s.extract 16 (16 + 4))) (ext_size _ _ _ (by omega)))).as (v' := .agg [.int .u8 (bn s 16 : Nat), .int .u8 (bn s 17 : Nat), .int .u8 (bn s 18 : Nat), .int .u8 (bn s 19 : Nat)].toArray) (by rw [bn_extract (by omega) (by omega), bn_extract (by omega) (by omega), bn_extract (by omega) (by omega), bn_extract (by omega) (by omega)])).opx rfl rfl), fun _ _ => ⟨⟨_, Take.eq (A := emp)⟩, .inr ⟨_, Take.eq (A := emp)⟩, ?_⟩⟩
                            refine R_only 11 rfl rfl (by kernel_rfl) (opx_store rfl rfl rfl (by simp [Value.oneCell'])) (fun _ _ => ⟨_, Take.eq (A := emp)⟩) (.inr fun _ _ => ⟨_, Take.eq (A := emp)⟩) (fun _ _ => ?_)
                            first
                              | refine R_pure 12 rfl (by kernel_rfl) (by kernel_rfl) (by kernel_rfl) (by kernel_rfl) (.inr ⟨_, Take.eq (A := emp)⟩) (opv_fieldAddr0 rfl) rfl ?_
                              | refine R_pure 12 rfl (by kernel_rfl) (by kernel_rfl) (by kernel_rfl) (by kernel_rfl) (.inr ⟨_, Take.eq (A := emp)⟩) (opv_fieldAddr rfl) rfl ?_
                            refine R_only 13 rfl rfl (by kernel_rfl) (opx_store rfl rfl rfl (by simp [Value.oneCell'])) (fun _ _ => ⟨_, Take.eq (A := emp)⟩) (.inr fun _ _ => ⟨_, Take.eq (A := emp)⟩) (fun _ _ => ?_)
                            refine R_done (by kernel_rfl) ?_
                            exact K_cut () trivial ⟨rfl, rfl, rfl, rfl, trivial⟩ Ent.take
                          · refine ⟨_, _, _, _, _, rfl, rfl, (opx_store rfl rfl rfl (by simp [Value.oneCell'])), fun _ _ => ⟨⟨_, Take.eq (A := emp)⟩, .inr ⟨_, Take.eq (A := emp)⟩, ?_⟩⟩
                            refine R_only 9 rfl rfl (by kernel_rfl) (((opv_loadN (vs := [.int .u8 (bn (s.extract 16 (16 + 4)) 0 : Nat), .int .u8 (bn (s.extract 16 (16 + 4)) 1 : Nat), .int .u8 (bn (s.extract 16 (16 + 4)) 2 : Nat), .int .u8 (bn (s.extract 16 (16 + 4)) 3 : Nat)]) rfl rfl (Rd4 (c := y84.2) (e := 5) (T := (s.extract 16 (16 + 4))) (ext_size _ _ _ (by omega)))).as (v' := .agg [.int .u8 (bn s 16 : Nat), .int .u8 (bn s 17 : Nat), .int .u8 (bn s 18 : Nat), .int .u8 (bn s 19 : Nat)].toArray) (by rw [bn_extract (by omega) (by omega), bn_extract (by omega) (by omega), bn_extract (by omega) (by omega), bn_extract (by omega) (by omega)])).opx rfl rfl) (fun _ _ => ⟨_, Take.eq (A := emp)⟩) (.inr fun _ _ => ⟨_, Take.eq (A := emp)⟩) (fun _ _ => ?_)
                            first
                              | refine R_pure 12 rfl (by kernel_rfl) (by kernel_rfl) (by kernel_rfl) (by kernel_rfl) (.inr ⟨_, Take.eq (A := emp)⟩) (opv_fieldAddr0 rfl) rfl ?_
                              | refine R_pure 12 rfl (by kernel_rfl) (by kernel_rfl) (by kernel_rfl) (by kernel_rfl) (.inr ⟨_, Take.eq (A := emp)⟩) (opv_fieldAddr rfl) rfl ?_
                            refine R_only 13 rfl rfl (by kernel_rfl) (opx_store rfl rfl rfl (by simp [Value.oneCell'])) (fun _ _ => ⟨_, Take.eq (A := emp)⟩) (.inr fun _ _ => ⟨_, Take.eq (A := emp)⟩) (fun _ _ => ?_)
                            refine R_done (by kernel_rfl) ?_
                            exact K_cut () trivial ⟨rfl, rfl, rfl, rfl, trivial⟩ Ent.take
                        · refine ⟨_, _, _, _, _, rfl, rfl, (opx_store rfl rfl rfl (by simp [Value.oneCell'])), fun _ _ => ⟨⟨_, Take.eq (A := emp)⟩, .inr ⟨_, Take.eq (A := emp)⟩, ?_⟩⟩
                          refine R_only 7 rfl rfl (by kernel_rfl) (opx_s2b rfl rfl) (fun _ _ => ⟨_, Take.eq (A := emp)⟩) (.inr fun _ _ => ⟨_, Take.eq (A := emp)⟩) (fun y84 _ => ?_)
                          refine R_pure 8 rfl (by kernel_rfl) (by kernel_rfl) (by kernel_rfl) (by kernel_rfl) (.inr ⟨_, Take.eq (A := emp)⟩) (opv_s2a rfl (by rw [ext_size _ _ _ (by omega)]; decide)) rfl ?_
                          refine R_only 9 rfl rfl (by kernel_rfl) (((opv_loadN (vs := [.int .u8 (bn (s.extract 16 (16 + 4)) 0 : Nat), .int .u8 (bn (s.extract 16 (16 + 4)) 1 : Nat), .int .u8 (bn (s.extract 16 (16 + 4)) 2 : Nat), .int .u8 (bn (s.extract 16 (16 + 4)) 3 : Nat)]) rfl rfl (Rd4 (c := y84.2) (e := 5) (T := (s.extract 16 (16 + 4))) (ext_size _ _ _ (by omega)))).as (v' := .agg [.int .u8 (bn s 16 : Nat), .int .u8 (bn s 17 : Nat), .int .u8 (bn s 18 : Nat), .int .u8 (bn s 19 : Nat)].toArray) (by rw [bn_extract (by omega) (by omega), bn_extract (by omega) (by omega), bn_extract (by omega) (by omega), bn_extract (by omega) (by omega)])).opx rfl rfl) (fun _ _ => ⟨_, Take.eq (A := emp)⟩) (.inr fun _ _ => ⟨_, Take.eq (A := emp)⟩) (fun _ _ => ?_)
                          first
                            | refine R_pure 12 rfl (by kernel_rfl) (by kernel_rfl) (by kernel_rfl) (by kernel_rfl) (.inr ⟨_, Take.eq (A := emp)⟩) (opv_fieldAddr0 rfl) rfl ?_
                            | refine R_pure 12 rfl (by kernel_rfl) (by kernel_rfl) (by kernel_rfl) (by kernel_rfl) (.inr ⟨_, Take.eq (A := emp)⟩) (opv_fieldAddr rfl) rfl ?_
                          refine R_only 13 rfl rfl (by kernel_rfl) (opx_store rfl rfl rfl (by simp [Value.oneCell'])) (fun _ _ => ⟨_, Take.eq (A := emp)⟩) (.inr fun _ _ => ⟨_, Take.eq (A := emp)⟩) (fun _ _ => ?_)
                          refine R_done (by kernel_rfl) ?_
                          exact K_cut () trivial ⟨rfl, rfl, rfl, rfl, trivial⟩ Ent.take
                      · refine ⟨_, _, _, _, _, rfl, rfl, (opx_s2b rfl rfl), fun y84 _ => ⟨⟨_, Take.eq (A := emp)⟩, .inr ⟨_, Take.eq (A := emp)⟩, ?_⟩⟩
                        refine R_pure 8 rfl (by kernel_rfl) (by kernel_rfl) (by kernel_rfl) (by kernel_rfl) (.inr ⟨_, Take.eq (A := emp)⟩) (opv_s2a rfl (by rw [ext_size _ _ _ (by omega)]; decide)) rfl ?_
                        refine R_all [4, 9] (by kernel_rfl) rfl fun i hi => ?_
                        simp only [List.mem_cons, List.not_mem_nil, or_false] at hi
                        rcases hi with rfl | rfl
                        · refine ⟨_, _, _, _, _, rfl, rfl, (((opv_loadN (vs := [.int .u8 (bn (s.extract 12 (12 + 4)) 0 : Nat), .int .u8 (bn (s.extract 12 (12 + 4)) 1 : Nat), .int .u8 (bn (s.extract 12 (12 + 4)) 2 : Nat), .int .u8 (bn (s.extract 12 (12 + 4)) 3 : Nat)]) rfl rfl (Rd4 (c := y79.2) (e := 5) (T := (s.extract 12 (12 + 4))) (ext_size _ _ _ (by omega)))).as (v' := .agg [.int .u8 (bn s 12 : Nat), .int .u8 (bn s 13 : Nat), .int .u8 (bn s 14 : Nat), .int .u8 (bn s 15 : Nat)].toArray) (by rw [bn_extract (by omega) (by omega), bn_extract (by omega) (by omega), bn_extract (by omega) (by omega), bn_extract (by omega) (by omega)])).opx rfl rfl), fun _ _ => ⟨⟨_, Take.eq (A := emp)⟩, .inr ⟨_, Take.eq (A := emp)⟩, ?_⟩⟩
                          first
                            | refine R_pure 10 rfl (by kernel_rfl) (by kernel_rfl) (by kernel_rfl) (by kernel_rfl) (.inr ⟨_, Take.eq (A := emp)⟩) (opv_fieldAddr0 rfl) rfl ?_
                            | refine R_pure 10 rfl (by kernel_rfl) (by kernel_rfl) (by kernel_rfl) (by kernel_rfl) (.inr ⟨_, Take.eq (A := emp)⟩) (opv_fieldAddr rfl) rfl ?_
                          refine R_all [9, 11] (by kernel_rfl) rfl fun i hi => ?_
                          simp only [List.mem_cons, List.not_mem_nil, or_false] at hi
                          rcases hi with rfl | rfl
                          · refine ⟨_, _, _, _, _, rfl, rfl, (((opv_loadN (vs := [.int .u8 (bn (s.extract 16 (16 + 4)) 0 : Nat), .int .u8 (bn (s.extract 16 (16 + 4)) 1 : Nat), .int .u8 (bn (s.extract 16 (16 + 4)) 2 : Nat), .int .u8 (bn (s.extract 16 (16 + 4)) 3 : Nat)]) rfl rfl (Rd4 (c := y84.2) (e := 5) (T := (s.extract 16 (16 + 4))) (ext_size _ _ _ (by omega)))).as (v' := .agg [.int .u8 (bn s 16 : Nat), .int .u8 (bn s 17 : Nat), .int .u8 (bn s 18 : Nat), .int .u8 (bn s 19 : Nat)].toArray) (by rw [bn_extract (by omega) (by omega), bn_extract (by omega) (by omega), bn_extract (by omega) (by omega), bn_extract (by omega) (by omega)])).opx rfl rfl), fun _ _ => ⟨⟨_, Take.eq (A := emp)⟩, .inr ⟨_, Take.eq (A := emp)⟩, ?_⟩⟩
                            refine R_only 11 rfl rfl (by kernel_rfl) (opx_store rfl rfl rfl (by simp [Value.oneCell'])) (fun _ _ => ⟨_, Take.eq (A := emp)⟩) (.inr fun _ _ => ⟨_, Take.eq (A := emp)⟩) (fun _ _ => ?_)
                            first
                              | refine R_pure 12 rfl (by kernel_rfl) (by kernel_rfl) (by kernel_rfl) (by kernel_rfl) (.inr ⟨_, Take.eq (A := emp)⟩) (opv_fieldAddr0 rfl) rfl ?_
                              | refine R_pure 12 rfl (by kernel_rfl) (by kernel_rfl) (by kernel_rfl) (by kernel_rfl) (.inr ⟨_, Take.eq (A := emp)⟩) (opv_fieldAddr rfl) rfl ?_
                            refine R_only 13 rfl rfl (by kernel_rfl) (opx_store rfl rfl rfl (by simp [Value.oneCell'])) (fun _ _ => ⟨_, Take.eq (A := emp)⟩) (.inr fun _ _ => ⟨_, Take.eq (A := emp)⟩) (fun _ _ => ?_)
                            refine R_done (by kernel_rfl) ?_
                            exact K_cut () trivial ⟨rfl, rfl, rfl, rfl, trivial⟩ Ent.take
                          · refine ⟨_, _, _, _, _, rfl, rfl, (opx_store rfl rfl rfl (by simp [Value.oneCell'])), fun _ _ => ⟨⟨_, Take.eq (A := emp)⟩, .inr ⟨_, Take.eq (A := emp)⟩, ?_⟩⟩
                            refine R_only 9 rfl rfl (by kernel_rfl) (((opv_loadN (vs := [.int .u8 (bn (s.extract 16 (16 + 4)) 0 : Nat), .int .u8 (bn (s.extract 16 (16 + 4)) 1 : Nat), .int .u8 (bn (s.extract 16 (16 + 4)) 2 : Nat), .int .u8 (bn (s.extract 16 (16 + 4)) 3 : Nat)]) rfl rfl (Rd4 (c := y84.2) (e := 5) (T := (s.extract 16 (16 + 4))) (ext_size _ _ _ (by omega)))).as (v' := .agg [.int .u8 (bn s 16 : Nat), .int .u8 (bn s 17 : Nat), .int .u8 (bn s 18 : Nat), .int .u8 (bn s 19 : Nat)].toArray) (by rw [bn_extract (by omega) (by omega), bn_extract (by omega) (by omega), bn_extract (by omega) (by omega), bn_extract (by omega) (by omega)])).opx rfl rfl) (fun _ _ => ⟨_, Take.eq (A := emp)⟩) (.inr fun _ _ => ⟨_, Take.eq (A := emp)⟩) (fun _ _ => ?_)
                            first
                              | refine R_pure 12 rfl (by kernel_rfl) (by kernel_rfl) (by kernel_rfl) (by kernel_rfl) (.inr ⟨_, Take.eq (A := emp)⟩) (opv_fieldAddr0 rfl) rfl ?_
                              | refine R_pure 12 rfl (by kernel_rfl) (by kernel_rfl) (by kernel_rfl) (by kernel_rfl) (.inr ⟨_, Take.eq (A := emp)⟩) (opv_fieldAddr rfl) rfl ?_
                            refine R_only 13 rfl rfl (by kernel_rfl) (opx_store rfl rfl rfl (by simp [Value.oneCell'])) (fun _ _ => ⟨_, Take.eq (A := emp)⟩) (.inr fun _ _ => ⟨_, Take.eq (A := emp)⟩) (fun _ _ => ?_)
                            refine R_done (by kernel_rfl) ?_
                            exact K_cut () trivial ⟨rfl, rfl, rfl, rfl, trivial⟩ Ent.take
                        · refine ⟨_, _, _, _, _, rfl, rfl, (((opv_loadN (vs := [.int .u8 (bn (s.extract 16 (16 + 4)) 0 : Nat), .int .u8 (bn (s.extract 16 (16 + 4)) 1 : Nat), .int .u8 (bn (s.extract 16 (16 + 4)) 2 : Nat), .int .u8 (bn (s.extract 16 (16 + 4)) 3 : Nat)]) rfl rfl (Rd4 (c := y84.2) (e := 5) (T := (s.extract 16 (16 + 4))) (ext_size _ _ _ (by omega)))).as (v' := .agg [.int .u8 (bn s 16 : Nat), .int .u8 (bn s 17 : Nat), .int .u8 (bn s 18 : Nat), .int .u8 (bn s 19 : Nat)].toArray) (by rw [bn_extract (by omega) (by omega), bn_extract (by omega) (by omega), bn_extract (by omega) (by omega), bn_extract (by omega) (by omega)])).opx rfl rfl), fun _ _ => ⟨⟨_, Take.eq (A := emp)⟩, .inr ⟨_, Take.eq (A := emp)⟩, ?_⟩⟩
                          refine R_only 4 rfl rfl (by kernel_rfl) (((opv_loadN (vs := [.int .u8 (bn (s.extract 12 (12 + 4)) 0 : Nat), .int .u8 (bn (s.extract 12 (12 + 4)) 1 : Nat), .int .u8 (bn (s.extract 12 (12 + 4)) 2 : Nat), .int .u8 (bn (s.extract 12 (12 + 4)) 3 : Nat)]) rfl rfl (Rd4 (c := y79.2) (e := 5) (T := (s.extract 12 (12 + 4))) (ext_size _ _ _ (by omega)))).as (v' := .agg [.int .u8 (bn s 12 : Nat), .int .u8 (bn s 13 : Nat), .int .u8 (bn s 14 : Nat), .int .u8 (bn s 15 : Nat)].toArray) (by rw [bn_extract (by omega) (by omega), bn_extract (by omega) (by omega), bn_extract (by omega) (by omega), bn_extract (by omega) (by omega)])).opx rfl rfl) (fun _ _ => ⟨_, Take.eq (A := emp)⟩) (.inr fun _ _ => ⟨_, Take.eq (A := emp)⟩) (fun _ _ => ?_)
                          first
                            | refine R_pure 10 rfl (by kernel_rfl) (by kernel_rfl) (by kernel_rfl) (by kernel_rfl) (.inr ⟨_, Take.eq (A := emp)⟩) (opv_fieldAddr0 rfl) rfl ?_
                            | refine R_pure 10 rfl (by kernel_rfl) (by kernel_rfl) (by kernel_rfl) (by kernel_rfl) (.inr ⟨_, Take.eq (A := emp)⟩) (opv_fieldAddr rfl) rfl ?_
                          refine R_only 11 rfl rfl (by kernel_rfl) (opx_store rfl rfl rfl (by simp [Value.oneCell'])) (fun _ _ => ⟨_, Take.eq (A := emp)⟩) (.inr fun _ _ => ⟨_, Take.eq (A := emp)⟩) (fun _ _ => ?_)
                          first
                            | refine R_pure 12 rfl (by kernel_rfl) (by kernel_rfl) (by kernel_rfl) (by kernel_rfl) (.inr ⟨_, Take.eq (A := emp)⟩) (opv_fieldAddr0 rfl) rfl ?_
                            | refine R_pure 12 rfl (by kernel_rfl) (by kernel_rfl) (by kernel_rfl) (by kernel_rfl) (.inr ⟨_, Take.eq (A := emp)⟩) (opv_fieldAddr rfl) rfl ?_
                          refine R_only 13 rfl rfl (by kernel_rfl) (opx_store rfl rfl rfl (by simp [Value.oneCell'])) (fun _ _ => ⟨_, Take.eq (A := emp)⟩) (.inr fun _ _ => ⟨_, Take.eq (A := emp)⟩) (fun _ _ => ?_)
                          refine R_done (by kernel_rfl) ?_
                          exact K_cut () trivial ⟨rfl, rfl, rfl, rfl, trivial⟩ Ent.take
                  · refine ⟨_, _, _, _, _, rfl, rfl, (opx_call0 (RText_at p 16 4 s (by omega)) rfl rfl rfl), fun _ _ => ⟨⟨_, Take.eq (A := emp)⟩, .inr ⟨_, Take.eq (A := emp)⟩, ?_⟩⟩
                    refine R_all [2, 7] (by kernel_rfl) rfl fun i hi => ?_
                    simp only [List.mem_cons, List.not_mem_nil, or_false] at hi
                    rcases hi with rfl | rfl
                    · refine ⟨_, _, _, _, _, rfl, rfl, (opx_s2b rfl rfl), fun y79 _ => ⟨⟨_, Take.eq (A := emp)⟩, .inr ⟨_, Take.eq (A := emp)⟩, ?_⟩⟩
                      refine R_pure 3 rfl (by kernel_rfl) (by kernel_rfl) (by kernel_rfl) (by kernel_rfl) (.inr ⟨_, Take.eq (A := emp)⟩) (opv_s2a rfl (by rw [ext_size _ _ _ (by omega)]; decide)) rfl ?_
                      refine R_all [4, 7] (by kernel_rfl) rfl fun i hi => ?_
                      simp only [List.mem_cons, List.not_mem_nil, or_false] at hi
                      rcases hi with rfl | rfl
                      · refine ⟨_, _, _, _, _, rfl, rfl, (((opv_loadN (vs := [.int .u8 (bn (s.extract 12 (12 + 4)) 0 : Nat), .int .u8 (bn (s.extract 12 (12 + 4)) 1 : Nat), .int .u8 (bn (s.extract 12 (12 + 4)) 2 : Nat), .int .u8 (bn (s.extract 12 (12 + 4)) 3 : Nat)]) rfl rfl (Rd4 (c := y79.2) (e := 5) (T := (s.extract 12 (12 + 4))) (ext_size _ _ _ (by omega)))).as (v' := .agg [.int .u8 (bn s 12 : Nat), .int .u8 (bn s 13 : Nat), .int .u8 (bn s 14 : Nat), .int .u8 (bn s 15 : Nat)].toArray) (by rw [bn_extract (by omega) (by omega), bn_extract (by omega) (by omega), bn_extract (by omega) (by omega), bn_extract (by omega) (by omega)])).opx rfl rfl), fun _ _ => ⟨⟨_, Take.eq (A := emp)⟩, .inr ⟨_, Take.eq (A := emp)⟩, ?_⟩⟩
                        first
                          | refine R_pure 10 rfl (by kernel_rfl) (by kernel_rfl) (by kernel_rfl) (by kernel_rfl) (.inr ⟨_, Take.eq (A := emp)⟩) (opv_fieldAddr0 rfl) rfl ?_
                          | refine R_pure 10 rfl (by kernel_rfl) (by kernel_rfl) (by kernel_rfl) (by kernel_rfl) (.inr ⟨_, Take.eq (A := emp)⟩) (opv_fieldAddr rfl) rfl ?_
                        refine R_all [7, 11] (by kernel_rfl) rfl fun i hi => ?_
                        simp only [List.mem_cons, List.not_mem_nil, or_false] at hi
                        rcases hi with rfl | rfl
                        · refine ⟨_, _, _, _, _, rfl, rfl, (opx_s2b rfl rfl), fun y84 _ => ⟨⟨_, Take.eq (A := emp)⟩, .inr ⟨_, Take.eq (A := emp)⟩, ?_⟩⟩
                          refine R_pure 8 rfl (by kernel_rfl) (by kernel_rfl) (by kernel_rfl) (by kernel_rfl) (.inr ⟨_, Take.eq (A := emp)⟩) (opv_s2a rfl (by rw [ext_size _ _ _ (by omega)]; decide)) rfl ?_
                          refine R_all [9, 11] (by kernel_rfl) rfl fun i hi => ?_
                          simp only [List.mem_cons, List.not_mem_nil, or_false] at hi
                          rcases hi with rfl | rfl
                          · refine ⟨_, _, _, _, _, rfl, rfl, (((opv_loadN (vs := [.int .u8 (bn (s.extract 16 (16 + 4)) 0 : Nat), .int .u8 (bn (s.extract 16 (16 + 4)) 1 : Nat), .int .u8 (bn (s.extract 16 (16 + 4)) 2 : Nat), .int .u8 (bn (s.extract 16 (16 + 4)) 3 : Nat)]) rfl rfl (Rd4 (c := y84.2) (e := 5) (T := (s.extract 16 (16 + 4))) (ext_size _ _ _ (by omega)))).as (v' := .agg [.int .u8 (bn s 16 : Nat), .int .u8 (bn s 17 : Nat), .int .u8 (bn s 18 : Nat), .int .u8 (bn s 19 : Nat)].toArray) (by rw [bn_extract (by omega) (by omega), bn_extract (by omega) (by omega), bn_extract (by omega) (by omega), bn_extract (by omega) (by omega)])).opx rfl rfl), fun _ _ => ⟨⟨_, Take.eq (A := emp)⟩, .inr ⟨_, Take.eq (A := emp)⟩, ?_⟩⟩
                            refine R_only 11 rfl rfl (by kernel_rfl) (opx_store rfl rfl rfl (by simp [Value.oneCell'])) (fun _ _ => ⟨_, Take.eq (A := emp)⟩) (.inr fun _ _ => ⟨_, Take.eq (A := emp)⟩) (fun _ _ => ?_)
                            first
                              | refine R_pure 12 rfl (by kernel_rfl) (by kernel_rfl) (by kernel_rfl) (by kernel_rfl) (.inr ⟨_, Take.eq (A := emp)⟩) (opv_fieldAddr0 rfl) rfl ?_
                              | refine R_pure 12 rfl (by kernel_rfl) (by kernel_rfl) (by kernel_rfl) (by kernel_rfl) (.inr ⟨_, Take.eq (A := emp)⟩) (opv_fieldAddr rfl) rfl ?_
                            refine R_only 13 rfl rfl (by kernel_rfl) (opx_store rfl rfl rfl (by simp [Value.oneCell'])) (fun _ _ => ⟨_, Take.eq (A := emp)⟩) (.inr fun _ _ => ⟨_, Take.eq (A := emp)⟩) (fun _ _ => ?_)
                            refine R_done (by kernel_rfl) ?_
                            exact K_cut () trivial ⟨rfl, rfl, rfl, rfl, trivial⟩ Ent.take
                          · refine ⟨_, _, _, _, _, rfl, rfl, (opx_store rfl rfl rfl (by simp [Value.oneCell'])), fun _ _ => ⟨⟨_, Take.eq (A := emp)⟩, .inr ⟨_, Take.eq (A := emp)⟩, ?_⟩⟩
                            refine R_only 9 rfl rfl (by kernel_rfl) (((opv_loadN (vs := [.int .u8 (bn (s.extract 16 (16 + 4)) 0 : Nat), .int .u8 (bn (s.extract 16 (16 + 4)) 1 : Nat), .int .u8 (bn (s.extract 16 (16 + 4)) 2 : Nat), .int .u8 (bn (s.extract 16 (16 + 4)) 3 : Nat)]) rfl rfl (Rd4 (c := y84.2) (e := 5) (T := (s.extract 16 (16 + 4))) (ext_size _ _ _ (by omega)))).as (v' := .agg [.int .u8 (bn s 16 : Nat), .int .u8 (bn s 17 : Nat), .int .u8 (bn s 18 : Nat), .int .u8 (bn s 19 : Nat)].toArray) (by rw [bn_extract (by omega) (by omega), bn_extract (by omega) (by omega), bn_extract (by omega) (by omega), bn_extract (by omega) (by omega)])).opx rfl rfl) (fun _ _ => ⟨_, Take.eq (A := emp)⟩) (.inr fun _ _ => ⟨_, Take.eq (A := emp)⟩) (fun _ _ => ?_)
                            first
                              | refine R_pure 12 rfl (by kernel_rfl) (by kernel_rfl) (by kernel_rfl) (by kernel_rfl) (.inr ⟨_, Take.eq (A := emp)⟩) (opv_fieldAddr0 rfl) rfl ?_
                              | refine R_pure 12 rfl (by kernel_rfl) (by kernel_rfl) (by kernel_rfl) (by kernel_rfl) (.inr ⟨_, Take.eq (A := emp)⟩) (opv_fieldAddr rfl) rfl ?_
                            refine R_only 13 rfl rfl (by kernel_rfl) (opx_store rfl rfl rfl (by simp [Value.oneCell'])) (fun _ _ => ⟨_, Take.eq (A := emp)⟩) (.inr fun _ _ => ⟨_, Take.eq (A := emp)⟩) (fun _ _ => ?_)
                            refine R_done (by kernel_rfl) ?_
                            exact K_cut () trivial ⟨rfl, rfl, rfl, rfl, trivial⟩ Ent.take
                        · refine ⟨_, _, _, _, _, rfl, rfl, (opx_store rfl rfl rfl (by simp [Value.oneCell'])), fun _ _ => ⟨⟨_, Take.eq (A := emp)⟩, .inr ⟨_, Take.eq (A := emp)⟩, ?_⟩⟩
                          refine R_only 7 rfl rfl (by kernel_rfl) (opx_s2b rfl rfl) (fun _ _ => ⟨_, Take.eq (A := emp)⟩) (.inr fun _ _ => ⟨_, Take.eq (A := emp)⟩) (fun y84 _ => ?_)
                          refine R_pure 8 rfl (by kernel_rfl) (by kernel_rfl) (by kernel_rfl) (by kernel_rfl) (.inr ⟨_, Take.eq (A := emp)⟩) (opv_s2a rfl (by rw [ext_size _ _ _ (by omega)]; decide)) rfl ?_
                          refine R_only 9 rfl rfl (by kernel_rfl) (((opv_loadN (vs := [.int .u8 (bn (s.extract 16 (16 + 4)) 0 : Nat), .int .u8 (bn (s.extract 16 (16 + 4)) 1 : Nat), .int .u8 (bn (s.extract 16 (16 + 4)) 2 : Nat), .int .u8 (bn (s.extract 16 (16 + 4)) 3 : Nat)]) rfl rfl (Rd4 (c := y84.2) (e := 5) (T := (s.extract 16 (16 + 4))) (ext_size _ _ _ (by omega)))).as (v' := .agg [.int .u8 (bn s 16 : Nat), .int .u8 (bn s 17 : Nat), .int .u8 (bn s 18 : Nat), .int .u8 (bn s 19 : Nat)].toArray) (by rw [bn_extract (by omega) (by omega), bn_extract (by omega) (by omega), bn_extract (by omega) (by omega), bn_extract (by omega) (by omega)])).opx rfl rfl) (fun _ _ => ⟨_, Take.eq (A := emp)⟩) (.inr fun _ _ => ⟨_, Take.eq (A := emp)⟩) (fun _ _ => ?_)
                          first
                            | refine R_pure 12 rfl (by kernel_rfl) (by kernel_rfl) (by kernel_rfl) (by kernel_rfl) (.inr ⟨_, Take.eq (A := emp)⟩) (opv_fieldAddr0 rfl) rfl ?_
                            | refine R_pure 12 rfl (by kernel_rfl) (by kernel_rfl) (by kernel_rfl) (by kernel_rfl) (.inr ⟨_, Take.eq (A := emp)⟩) (opv_fieldAddr rfl) rfl ?_
                          refine R_only 13 rfl rfl (by kernel_rfl) (opx_store rfl rfl rfl (by simp [Value.oneCell'])) (fun _ _ => ⟨_, Take.eq (A := emp)⟩) (.inr fun _ _ => ⟨_, Take.eq (A := emp)⟩) (fun _ _ => ?_)
                          refine R_done (by kernel_rfl) ?_
                          exact K_cut () trivial ⟨rfl, rfl, rfl, rfl, trivial⟩ Ent.take
                      · refine ⟨_, _, _, _, _, rfl, rfl, (opx_s2b rfl rfl), fun y84 _ => ⟨⟨_, Take.eq (A := emp)⟩, .inr ⟨_, Take.eq (A := emp)⟩, ?_⟩⟩
                        refine R_pure 8 rfl (by kernel_rfl) (by kernel_rfl) (by kernel_rfl) (by kernel_rfl) (.inr ⟨_, Take.eq (A := emp)⟩) (opv_s2a rfl (by rw [ext_size _ _ _ (by omega)]; decide)) rfl ?_
                        refine R_all [4, 9] (by kernel_rfl) rfl fun i hi => ?_
                        simp only [List.mem_cons, List.not_mem_nil, or_false] at hi
                        rcases hi with rfl | rfl
                        · refine ⟨_, _, _, _, _, rfl, rfl, (((opv_loadN (vs := [.int .u8 (bn (s.extract 12 (12 + 4)) 0 : Nat), .int .u8 (bn (s.extract 12 (12 + 4)) 1 : Nat), .int .u8 (bn (s.extract 12 (12 + 4)) 2 : Nat), .int .u8 (bn (s.extract 12 (12 + 4)) 3 : Nat)]) rfl rfl (Rd4 (c := y79.2) (e := 5) (T := (s.extract 12 (12 + 4))) (ext_size _ _ _ (by omega)))).as (v' := .agg [.int .u8 (bn s 12 : Nat), .int .u8 (bn s 13 : Nat), .int .u8 (bn s 14 : Nat), .int .u8 (bn s 15 : Nat)].toArray) (by rw [bn_extract (by omega) (by omega), bn_extract (by omega) (by omega), bn_extract (by omega) (by omega), bn_extract (by omega) (by omega)])).opx rfl rfl), fun _ _ => ⟨⟨_, Take.eq (A := emp)⟩, .inr ⟨_, Take.eq (A := emp)⟩, ?_⟩⟩
                          first
                            | refine R_pure 10 rfl (by kernel_rfl) (by kernel_rfl) (by kernel_rfl) (by kernel_rfl) (.inr ⟨_, Take.eq (A := emp)⟩) (opv_fieldAddr0 rfl) rfl ?_
                            | refine R_pure 10 rfl (by kernel_rfl) (by kernel_rfl) (by kernel_rfl) (by kernel_rfl) (.inr ⟨_, Take.eq (A := emp)⟩) (opv_fieldAddr rfl) rfl ?_
                          refine R_all [9, 11] (by kernel_rfl) rfl fun i hi => ?_
                          simp only [List.mem_cons, List.not_mem_nil, or_false] at hi
                          rcases hi with rfl | rfl
                          · refine ⟨_, _, _, _, _, rfl, rfl, (((opv_loadN (vs := [.int .u8 (bn (s.extract 16 (16 + 4)) 0 : Nat), .int .u8 (bn (s.extract 16 (16 + 4)) 1 : Nat), .int .u8 (bn (s.extract 16 (16 + 4)) 2 : Nat), .int .u8 (bn (s.extract 16 (16 + 4)) 3 : Nat)]) rfl rfl (Rd4 (c := y84.2) (e := 5) (T := (s.extract 16 (16 + 4))) (ext_size _ _ _ (by omega)))).as (v' := .agg [.int .u8 (bn s 16 : Nat), .int .u8 (bn s 17 : Nat), .int .u8 (bn s 18 : Nat), .int .u8 (bn s 19 : Nat)].toArray) (by rw [bn_extract (by omega) (by omega), bn_extract (by omega) (by omega), bn_extract (by omega) (by omega), bn_extract (by omega) (by omega)])).opx rfl rfl), fun _ _ => ⟨⟨_, Take.eq (A := emp)⟩, .inr ⟨_, Take.eq (A := emp)⟩, ?_⟩⟩
                            refine R_only 11 rfl rfl (by kernel_rfl) (opx_store rfl rfl rfl (by simp [Value.oneCell'])) (fun _ _ => ⟨_, Take.eq (A := emp)⟩) (.inr fun _ _ => ⟨_, Take.eq (A := emp)⟩) (fun _ _ => ?_)
                            first
                              | refine R_pure 12 rfl (by kernel_rfl) (by kernel_rfl) (by kernel_rfl) (by kernel_rfl) (.inr ⟨_, Take.eq (A := emp)⟩) (opv_fieldAddr0 rfl) rfl ?_
                              | refine R_pure 12 rfl (by kernel_rfl) (by kernel_rfl) (by kernel_rfl) (by kernel_rfl) (.inr ⟨_, Take.eq (A := emp)⟩) (opv_fieldAddr rfl) rfl ?_
                            refine R_only 13 rfl rfl (by kernel_rfl) (opx_store rfl rfl rfl (by simp [Value.oneCell'])) (fun _ _ => ⟨_, Take.eq (A := emp)⟩) (.inr fun _ _ => ⟨_, Take.eq (A := emp)⟩) (fun _ _ => ?_)
                            refine R_done (by kernel_rfl) ?_
                            exact K_cut () trivial ⟨rfl, rfl, rfl, rfl, trivial⟩ Ent.take
                          · refine ⟨_, _, _, _, _, rfl, rfl, (opx_store rfl rfl rfl (by simp [Value.oneCell'])), fun _ _ => ⟨⟨_, Take.eq (A := emp)⟩, .inr ⟨_, Take.eq (A := emp)⟩, ?_⟩⟩
                            refine R_only 9 rfl rfl (by kernel_rfl) (((opv_loadN (vs := [.int .u8 (bn (s.extract 16 (16 + 4)) 0 : Nat), .int .u8 (bn (s.extract 16 (16 + 4)) 1 : Nat), .int .u8 (bn (s.extract 16 (16 + 4)) 2 : Nat), .int .u8 (bn (s.extract 16 (16 + 4)) 3 : Nat)]) rfl rfl (Rd4 (c := y84.2) (e := 5) (T := (s.extract 16 (16 + 4))) (ext_size _ _ _ (by omega)))).as (v' := .agg [.int .u8 (bn s 16 : Nat), .int .u8 (bn s 17 : Nat), .int .u8 (bn s 18 : Nat), .int .u8 (bn s 19 : Nat)].toArray) (by rw [bn_extract (by omega) (by omega), bn_extract (by omega) (by omega), bn_extract (by omega) (by omega), bn_extract (by omega) (by omega)])).opx rfl rfl) (fun _ _ => ⟨_, Take.eq (A := emp)⟩) (.inr fun _ _ => ⟨_, Take.eq (A := emp)⟩) (fun _ _ => ?_)
                            first
                              | refine R_pure 12 rfl (by kernel_rfl) (by kernel_rfl) (by kernel_rfl) (by kernel_rfl) (.inr ⟨_, Take.eq (A := emp)⟩) (opv_fieldAddr0 rfl) rfl ?_
                              | refine R_pure 12 rfl (by kernel_rfl) (by kernel_rfl) (by kernel_rfl) (by kernel_rfl) (.inr ⟨_, Take.eq (A := emp)⟩) (opv_fieldAddr rfl) rfl ?_
                            refine R_only 13 rfl rfl (by kernel_rfl) (opx_store rfl rfl rfl (by simp [Value.oneCell'])) (fun _ _ => ⟨_, Take.eq (A := emp)⟩) (.inr fun _ _ => ⟨_, Take.eq (A := emp)⟩) (fun _ _ => ?_)
                            refine R_done (by kernel_rfl) ?_
                            exact K_cut () trivial ⟨rfl, rfl, rfl, rfl, trivial⟩ Ent.take
                        · refine ⟨_, _, _, _, _, rfl, rfl, (((opv_loadN (vs := [.int .u8 (bn (s.extract 16 (16 + 4)) 0 : Nat), .int .u8 (bn (s.extract 16 (16 + 4)) 1 : Nat), .int .u8 (bn (s.extract 16 (16 + 4)) 2 : Nat), .int .u8 (bn (s.extract 16 (16 + 4)) 3 : Nat)]) rfl rfl (Rd4 (c := y84.2) (e := 5) (T := (s.extract 16 (16 + 4))) (ext_size _ _ _ (by omega)))).as (v' := .agg [.int .u8 (bn s 16 : Nat), .int .u8 (bn s 17 : Nat), .int .u8 (bn s 18 : Nat), .int .u8 (bn s 19 : Nat)].toArray) (by rw [bn_extract (by omega) (by omega), bn_extract (by omega) (by omega), bn_extract (by omega) (by omega), bn_extract (by omega) (by omega)])).opx rfl rfl), fun _ _ => ⟨⟨_, Take.eq (A := emp)⟩, .inr ⟨_, Take.eq (A := emp)⟩, ?_⟩⟩
                          refine R_only 4 rfl rfl (by kernel_rfl) (((opv_loadN (vs := [.int .u8 (bn (s.extract 12 (12 + 4)) 0 : Nat), .int .u8 (bn (s.extract 12 (12 + 4)) 1 : Nat), .int .u8 (bn (s.extract 12 (12 + 4)) 2 : Nat), .int .u8 (bn (s.extract 12 (12 + 4)) 3 : Nat)]) rfl rfl (Rd4 (c := y79.2) (e := 5) (T := (s.extract 12 (12 + 4))) (ext_size _ _ _ (by omega)))).as (v' := .agg [.int .u8 (bn s 12 : Nat), .int .u8 (bn s 13 : Nat), .int .u8 (bn s 14 : Nat), .int .u8 (bn s 15 : Nat)].toArray) (by rw [bn_extract (by omega) (by omega), bn_extract (by omega) (by omega), bn_extract (by omega) (by omega), bn_extract (by omega) (by omega)])).opx rfl rfl) (fun _ _ => ⟨_, Take.eq (A := emp)⟩) (.inr fun _ _ => ⟨_, Take.eq (A := emp)⟩) (fun _ _ => ?_)
                          first
                            | refine R_pure 10 rfl (by kernel_rfl) (by kernel_rfl) (by kernel_rfl) (by kernel_rfl) (.inr ⟨_, Take.eq (A := emp)⟩) (opv_fieldAddr0 rfl) rfl ?_
                            | refine R_pure 10 rfl (by kernel_rfl) (by kernel_rfl) (by kernel_rfl) (by kernel_rfl) (.inr ⟨_, Take.eq (A := emp)⟩) (opv_fieldAddr rfl) rfl ?_
                          refine R_only 11 rfl rfl (by kernel_rfl) (opx_store rfl rfl rfl (by simp [Value.oneCell'])) (fun _ _ => ⟨_, Take.eq (A := emp)⟩) (.inr fun _ _ => ⟨_, Take.eq (A := emp)⟩) (fun _ _ => ?_)
                          first
                            | refine R_pure 12 rfl (by kernel_rfl) (by kernel_rfl) (by kernel_rfl) (by kernel_rfl) (.inr ⟨_, Take.eq (A := emp)⟩) (opv_fieldAddr0 rfl) rfl ?_
                            | refine R_pure 12 rfl (by kernel_rfl) (by kernel_rfl) (by kernel_rfl) (by kernel_rfl) (.inr ⟨_, Take.eq (A := emp)⟩) (opv_fieldAddr rfl) rfl ?_
                          refine R_only 13 rfl rfl (by kernel_rfl) (opx_store rfl rfl rfl (by simp [Value.oneCell'])) (fun _ _ => ⟨_, Take.eq (A := emp)⟩) (.inr fun _ _ => ⟨_, Take.eq (A := emp)⟩) (fun _ _ => ?_)
                          refine R_done (by kernel_rfl) ?_
                          exact K_cut () trivial ⟨rfl, rfl, rfl, rfl, trivial⟩ Ent.take
                    · refine ⟨_, _, _, _, _, rfl, rfl, (opx_s2b rfl rfl), fun y84 _ => ⟨⟨_, Take.eq (A := emp)⟩, .inr ⟨_, Take.eq (A := emp)⟩, ?_⟩⟩
                      refine R_pure 8 rfl (by kernel_rfl) (by kernel_rfl) (by kernel_rfl) (by kernel_rfl) (.inr ⟨_, Take.eq (A := emp)⟩) (opv_s2a rfl (by rw [ext_size _ _ _ (by omega)]; decide)) rfl ?_
                      refine R_all [2, 9] (by kernel_rfl) rfl fun i hi => ?_
                      simp only [List.mem_cons, List.not_mem_nil, or_false] at hi
                      rcases hi with rfl | rfl
                      · refine ⟨_, _, _, _, _, rfl, rfl, (opx_s2b rfl rfl), fun y79 _ => ⟨⟨_, Take.eq (A := emp)⟩, .inr ⟨_, Take.eq (A := emp)⟩, ?_⟩⟩
                        refine R_pure 3 rfl (by kernel_rfl) (by kernel_rfl) (by kernel_rfl) (by kernel_rfl) (.inr ⟨_, Take.eq (A := emp)⟩) (opv_s2a rfl (by rw [ext_size _ _ _ (by omega)]; decide)) rfl ?_
                        refine R_all [4, 9] (by kernel_rfl) rfl fun i hi => ?_
                        simp only [List.mem_cons, List.not_mem_nil, or_false] at hi
                        rcases hi with rfl | rfl
                        · refine ⟨_, _, _, _, _, rfl, rfl, (((opv_loadN (vs := [.int .u8 (bn (s.extract 12 (12 + 4)) 0 : Nat), .int .u8 (bn (s.extract 12 (12 + 4)) 1 : Nat), .int .u8 (bn (s.extract 12 (12 + 4)) 2 : Nat), .int .u8 (bn (s.extract 12 (12 + 4)) 3 : Nat)]) rfl rfl (Rd4 (c := y79.2) (e := 5) (T := (s.extract 12 (12 + 4))) (ext_size _ _ _ (by omega)))).as (v' := .agg [.int .u8 (bn s 12 : Nat), .int .u8 (bn s 13 : Nat), .int .u8 (bn s 14 : Nat), .int .u8 (bn s 15 : Nat)].toArray) (by rw [bn_extract (by omega) (by omega), bn_extract (by omega) (by omega), bn_extract (by omega) (by omega), bn_extract (by omega) (by omega)])).opx rfl rfl), fun _ _ => ⟨⟨_, Take.eq (A := emp)⟩, .inr ⟨_, Take.eq (A := emp)⟩, ?_⟩⟩
                          first
                            | refine R_pure 10 rfl (by kernel_rfl) (by kernel_rfl) (by kernel_rfl) (by kernel_rfl) (.inr ⟨_, Take.eq (A := emp)⟩) (opv_fieldAddr0 rfl) rfl ?_
                            | refine R_pure 10 rfl (by kernel_rfl) (by kernel_rfl) (by kernel_rfl) (by kernel_rfl) (.inr ⟨_, Take.eq (A := emp)⟩) (opv_fieldAddr rfl) rfl ?_
                          refine R_all [9, 11] (by kernel_rfl) rfl fun i hi => ?_
                          simp only [List.mem_cons, List.not_mem_nil, or_false] at hi
                          rcases hi with rfl | rfl
                          · refine ⟨_, _, _, _, _, rfl, rfl, (((opv_loadN (vs := [.int .u8 (bn (s.extract 16 (16 + 4)) 0 : Nat), .int .u8 (bn (s.extract 16 (16 + 4)) 1 : Nat), .int .u8 (bn (s.extract 16 (16 + 4)) 2 : Nat), .int .u8 (bn (s.extract 16 (16 + 4)) 3 : Nat)]) rfl rfl (Rd4 (c := y84.2) (e := 5) (T := (s.extract 16 (16 + 4))) (ext_size _ _ _ (by omega)))).as (v' := .agg [.int .u8 (bn s 16 : Nat), .int .u8 (bn s 17 : Nat), .int .u8 (bn s 18 : Nat), .int .u8 (bn s 19 : Nat)].toArray) (by rw [bn_extract (by omega) (by omega), bn_extract (by omega) (by omega), bn_extract (by omega) (by omega), bn_extract (by omega) (by omega)])).opx rfl rfl), fun _ _ => ⟨⟨_, Take.eq (A := emp)⟩, .inr ⟨_, Take.eq (A := emp)⟩, ?_⟩⟩
                            refine R_only 11 rfl rfl (by kernel_rfl) (opx_store rfl rfl rfl (by simp [Value.oneCell'])) (fun _ _ => ⟨_, Take.eq (A := emp)⟩) (.inr fun _ _ => ⟨_, Take.eq (A := emp)⟩) (fun _ _ => ?_)
                            first
                              | refine R_pure 12 rfl (by kernel_rfl) (by kernel_rfl) (by kernel_rfl) (by kernel_rfl) (.inr ⟨_, Take.eq (A := emp)⟩) (opv_fieldAddr0 rfl) rfl ?_
                              | refine R_pure 12 rfl (by kernel_rfl) (by kernel_rfl) (by kernel_rfl) (by kernel_rfl) (.inr ⟨_, Take.eq (A := emp)⟩) (opv_fieldAddr rfl) rfl ?_
                            refine R_only 13 rfl rfl (by kernel_rfl) (opx_store rfl rfl rfl (by simp [Value.oneCell'])) (fun _ _ => ⟨_, Take.eq (A := emp)⟩) (.inr fun _ _ => ⟨_, Take.eq (A := emp)⟩) (fun _ _ => ?_)
                            refine R_done (by kernel_rfl) ?_
                            exact K_cut () trivial ⟨rfl, rfl, rfl, rfl, trivial⟩ Ent.take
                          · refine ⟨_, _, _, _, _, rfl, rfl, (opx_store rfl rfl rfl (by simp [Value.oneCell'])), fun _ _ => ⟨⟨_, Take.eq (A := emp)⟩, .inr ⟨_, Take.eq (A := emp)⟩, ?_⟩⟩
                            refine R_only 9 rfl rfl (by kernel_rfl) (((opv_loadN (vs := [.int .u8 (bn (s.extract 16 (16 + 4)) 0 : Nat), .int .u8 (bn (s.extract 16 (16 + 4)) 1 : Nat), .int .u8 (bn (s.extract 16 (16 + 4)) 2 : Nat), .int .u8 (bn (s.extract 16 (16 + 4)) 3 : Nat)]) rfl rfl (Rd4 (c := y84.2) (e := 5) (T := (s.extract 16 (16 + 4))) (ext_size _ _ _ (by omega)))).as (v' := .agg [.int .u8 (bn s 16 : Nat), .int .u8 (bn s 17 : Nat), .int .u8 (bn s 18 : Nat), .int .u8 (bn s 19 : Nat)].toArray) (by rw [bn_extract (by omega) (by omega), bn_extract (by omega) (by omega), bn_extract (by omega) (by omega), bn_extract (by omega) (by omega)])).opx rfl rfl) (fun _ _ => ⟨_, Take.eq (A := emp)⟩) (.inr fun _ _ => ⟨_, Take.eq (A := emp)⟩) (fun _ _ => ?_)
                            first
                              | refine R_pure 12 rfl (by kernel_rfl) (by kernel_rfl) (by kernel_rfl) (by kernel_rfl) (.inr ⟨_, Take.eq (A := emp)⟩) (opv_fieldAddr0 rfl) rfl ?_
                              | refine R_pure 12 rfl (by kernel_rfl) (by kernel_rfl) (by kernel_rfl) (by kernel_rfl) (.inr ⟨_, Take.eq (A := emp)⟩) (opv_fieldAddr rfl) rfl ?_
                            refine R_only 13 rfl rfl (by kernel_rfl) (opx_store rfl rfl rfl (by simp [Value.oneCell'])) (fun _ _ => ⟨_, Take.eq (A := emp)⟩) (.inr fun _ _ => ⟨_, Take.eq (A := emp)⟩) (fun _ _ => ?_)
                            refine R_done (by kernel_rfl) ?_
                            exact K_cut () trivial ⟨rfl, rfl, rfl, rfl, trivial⟩ Ent.take
                        · refine ⟨_, _, _, _, _, rfl, rfl, (((opv_loadN (vs := [.int .u8 (bn (s.extract 16 (16 + 4)) 0 : Nat), .int .u8 (bn (s.extract 16 (16 + 4)) 1 : Nat), .int .u8 (bn (s.extract 16 (16 + 4)) 2 : Nat), .int .u8 (bn (s.extract 16 (16 + 4)) 3 : Nat)]) rfl rfl (Rd4 (c := y84.2) (e := 5) (T := (s.extract 16 (16 + 4))) (ext_size _ _ _ (by omega)))).as (v' := .agg [.int .u8 (bn s 16 : Nat), .int .u8 (bn s 17 : Nat), .int .u8 (bn s 18 : Nat), .int .u8 (bn s 19 : Nat)].toArray) (by rw [bn_extract (by omega) (by omega), bn_extract (by omega) (by omega), bn_extract (by omega) (by omega), bn_extract (by omega) (by omega)])).opx rfl rfl), fun _ _ => ⟨⟨_, Take.eq (A := emp)⟩, .inr ⟨_, Take.eq (A := emp)⟩, ?_⟩⟩
                          refine R_only 4 rfl rfl (by kernel_rfl) (((opv_loadN (vs := [.int .u8 (bn (s.extract 12 (12 + 4)) 0 : Nat), .int .u8 (bn (s.extract 12 (12 + 4)) 1 : Nat), .int .u8 (bn (s.extract 12 (12 + 4)) 2 : Nat), .int .u8 (bn (s.extract 12 (12 + 4)) 3 : Nat)]) rfl rfl (Rd4 (c := y79.2) (e := 5) (T := (s.extract 12 (12 + 4))) (ext_size _ _ _ (by omega)))).as (v' := .agg [.int .u8 (bn s 12 : Nat), .int .u8 (bn s 13 : Nat), .int .u8 (bn s 14 : Nat), .int .u8 (bn s 15 : Nat)].toArray) (by rw [bn_extract (by omega) (by omega), bn_extract (by omega) (by omega), bn_extract (by omega) (by omega), bn_extract (by omega) (by omega)])).opx rfl rfl) (fun _ _ => ⟨_, Take.eq (A := emp)⟩) (.inr fun _ _ => ⟨_, Take.eq (A := emp)⟩) (fun _ _ => ?_)
                          first
                            | refine R_pure 10 rfl (by kernel_rfl) (by kernel_rfl) (by kernel_rfl) (by kernel_rfl) (.inr ⟨_, Take.eq (A := emp)⟩) (opv_fieldAddr0 rfl) rfl ?_
                            | refine R_pure 10 rfl (by kernel_rfl) (by kernel_rfl) (by kernel_rfl) (by kernel_rfl) (.inr ⟨_, Take.eq (A := emp)⟩) (opv_fieldAddr rfl) rfl ?_
                          refine R_only 11 rfl rfl (by kernel_rfl) (opx_store rfl rfl rfl (by simp [Value.oneCell'])) (fun _ _ => ⟨_, Take.eq (A := emp)⟩) (.inr fun _ _ => ⟨_, Take.eq (A := emp)⟩) (fun _ _ => ?_)
                          first
                            | refine R_pure 12 rfl (by kernel_rfl) (by kernel_rfl) (by kernel_rfl) (by kernel_rfl) (.inr ⟨_, Take.eq (A := emp)⟩) (opv_fieldAddr0 rfl) rfl ?_
                            | refine R_pure 12 rfl (by kernel_rfl) (by kernel_rfl) (by kernel_rfl) (by kernel_rfl) (.inr ⟨_, Take.eq (A := emp)⟩) (opv_fieldAddr rfl) rfl ?_
                          refine R_only 13 rfl rfl (by kernel_rfl) (opx_store rfl rfl rfl (by simp [Value.oneCell'])) (fun _ _ => ⟨_, Take.eq (A := emp)⟩) (.inr fun _ _ => ⟨_, Take.eq (A := emp)⟩) (fun _ _ => ?_)
                          refine R_done (by kernel_rfl) ?_
                          exact K_cut () trivial ⟨rfl, rfl, rfl, rfl, trivial⟩ Ent.take
                      · refine ⟨_, _, _, _, _, rfl, rfl, (((opv_loadN (vs := [.int .u8 (bn (s.extract 16 (16 + 4)) 0 : Nat), .int .u8 (bn (s.extract 16 (16 + 4)) 1 : Nat), .int .u8 (bn (s.extract 16 (16 + 4)) 2 : Nat), .int .u8 (bn (s.extract 16 (16 + 4)) 3 : Nat)]) rfl rfl (Rd4 (c := y84.2) (e := 5) (T := (s.extract 16 (16 + 4))) (ext_size _ _ _ (by omega)))).as (v' := .agg [.int .u8 (bn s 16 : Nat), .int .u8 (bn s 17 : Nat), .int .u8 (bn s 18 : Nat), .int .u8 (bn s 19 : Nat)].toArray) (by rw [bn_extract (by omega) (by omega), bn_extract (by omega) (by omega), bn_extract (by omega) (by omega), bn_extract (by omega) (by omega)])).opx rfl rfl), fun _ _ => ⟨⟨_, Take.eq (A := emp)⟩, .inr ⟨_, Take.eq (A := emp)⟩, ?_⟩⟩
                        refine R_only 2 rfl rfl (by kernel_rfl) (opx_s2b rfl rfl) (fun _ _ => ⟨_, Take.eq (A := emp)⟩) (.inr fun _ _ => ⟨_, Take.eq (A := emp)⟩) (fun y79 _ => ?_)
                        refine R_pure 3 rfl (by kernel_rfl) (by kernel_rfl) (by kernel_rfl) (by kernel_rfl) (.inr ⟨_, Take.eq (A := emp)⟩) (opv_s2a rfl (by rw [ext_size _ _ _ (by omega)]; decide)) rfl ?_
                        refine R_only 4 rfl rfl (by kernel_rfl) (((opv_loadN (vs := [.int .u8 (bn (s.extract 12 (12 + 4)) 0 : Nat), .int .u8 (bn (s.extract 12 (12 + 4)) 1 : Nat), .int .u8 (bn (s.extract 12 (12 + 4)) 2 : Nat), .int .u8 (bn (s.extract 12 (12 + 4)) 3 : Nat)]) rfl rfl (Rd4 (c := y79.2) (e := 5) (T := (s.extract 12 (12 + 4))) (ext_size _ _ _ (by omega)))).as (v' := .agg [.int .u8 (bn s 12 : Nat), .int .u8 (bn s 13 : Nat), .int .u8 (bn s 14 : Nat), .int .u8 (bn s 15 : Nat)].toArray) (by rw [bn_extract (by omega) (by omega), bn_extract (by omega) (by omega), bn_extract (by omega) (by omega), bn_extract (by omega) (by omega)])).opx rfl rfl) (fun _ _ => ⟨_, Take.eq (A := emp)⟩) (.inr fun _ _ => ⟨_, Take.eq (A := emp)⟩) (fun _ _ => ?_)
                        first
                          | refine R_pure 10 rfl (by kernel_rfl) (by kernel_rfl) (by kernel_rfl) (by kernel_rfl) (.inr ⟨_, Take.eq (A := emp)⟩) (opv_fieldAddr0 rfl) rfl ?_
                          | refine R_pure 10 rfl (by kernel_rfl) (by kernel_rfl) (by kernel_rfl) (by kernel_rfl) (.inr ⟨_, Take.eq (A := emp)⟩) (opv_fieldAddr rfl) rfl ?_
                        refine R_only 11 rfl rfl (by kernel_rfl) (opx_store rfl rfl rfl (by simp [Value.oneCell'])) (fun _ _ => ⟨_, Take.eq (A := emp)⟩) (.inr fun _ _ => ⟨_, Take.eq (A := emp)⟩) (fun _ _ => ?_)
                        first
                          | refine R_pure 12 rfl (by kernel_rfl) (by kernel_rfl) (by kernel_rfl) (by kernel_rfl) (.inr ⟨_, Take.eq (A := emp)⟩) (opv_fieldAddr0 rfl) rfl ?_
                          | refine R_pure 12 rfl (by kernel_rfl) (by kernel_rfl) (by kernel_rfl) (by kernel_rfl) (.inr ⟨_, Take.eq (A := emp)⟩) (opv_fieldAddr rfl) rfl ?_
                        refine R_only 13 rfl rfl (by kernel_rfl) (opx_store rfl rfl rfl (by simp [Value.oneCell'])) (fun _ _ => ⟨_, Take.eq (A := emp)⟩) (.inr fun _ _ => ⟨_, Take.eq (A := emp)⟩) (fun _ _ => ?_)
                        refine R_done (by kernel_rfl) ?_
                        exact K_cut () trivial ⟨rfl, rfl, rfl, rfl, trivial⟩ Ent.take
                · refine J_seq ?_
                  refine J_seq ?_
                  refine J_region ?_
                  refine L_v (opv_move rfl) rfl ?_
                  refine L_v (opv_move rfl) rfl ?_
                  first
                    | refine L_v (opv_lenL rfl) rfl ?_
                    | refine L_v (opv_lenS rfl) rfl ?_
                  refine L_v (opv_gtr rfl rfl) rfl ?_
                  refine L_nil ?_
                  refine K_then ?_
                  refine J_cond rfl (fun h8 => ?_) (fun h8 => ?_)
                  · refine J_seq ?_
                    refine J_region ?_
                    refine L_v (opv_build rfl) rfl ?_
                    refine L_x rfl (opx_store rfl rfl rfl (by simp [Value.oneCell'])) (fun _ _ => ?_)
                    refine L_v (opv_assign rfl) rfl ?_
                    refine L_nil ?_
                    refine K_then ?_
                    refine J_ret ?_
                    refine K_then_ret ?_
                    have e : decP s = (pkz, 10) := by unfold decP; rw [if_neg (by omega), if_neg (by omega), if_neg (by omega), if_neg (by assumption), if_pos (by omega)]
                    exact K_ret2c rfl rfl rfl rfl () trivial (by rw [e]; rfl) Ent.take
                  · refine J_skip ?_
                    refine K_then ?_
                    refine J_seq ?_
                    refine J_region ?_
                    refine L_v (opv_move rfl) rfl ?_
                    refine L_v (opv_move rfl) rfl ?_
                    refine L_v ((opv_sliceS rfl rfl rfl (by omega)).as (v' := .string (s.extract 20 (word s 2))) (by rw [show Int.toNat 20 = 20 from rfl, Int.toNat_natCast])) rfl ?_
                    first
                      | refine L_v (opv_fieldAddr0 rfl) rfl ?_
                      | refine L_v (opv_fieldAddr rfl) rfl ?_
                    refine L_x rfl (opx_store rfl rfl rfl (by simp [Value.oneCell'])) (fun _ _ => ?_)
                    refine L_nil ?_
                    refine K_then ?_
                    refine J_seq ?_
                    refine J_region ?_
                    refine L_v (opv_loadS rfl) rfl ?_
                    refine L_x rfl (opx_store rfl rfl rfl (by simp [Value.oneCell'])) (fun _ _ => ?_)
                    refine L_v (opv_assign rfl) rfl ?_
                    refine L_nil ?_
                    refine K_then ?_
                    refine J_ret ?_
                    have e : decP s = (parseP s, 0) := by unfold decP; rw [if_neg (by omega), if_neg (by omega), if_neg (by omega), if_neg (by assumption), if_neg (by omega)]
                    exact K_ret2c rfl rfl rfl rfl () trivial (by rw [e]; rfl) Ent.take
            · refine L_gf_off h6 rfl rfl ?_ (fun _ h => by cases h; rfl)
              refine L_v (opv_pick_t rfl h6 rfl) rfl ?_
              refine L_nil ?_
              refine K_then ?_
              refine J_cond_true rfl ?_
              refine J_seq ?_
              refine J_region ?_
              refine L_v (opv_build rfl) rfl ?_
              refine L_x rfl (opx_store rfl rfl rfl (by simp [Value.oneCell'])) (fun _ _ => ?_)
              refine L_v (opv_assign rfl) rfl ?_
              refine L_nil ?_
              refine K_then ?_
              refine J_ret ?_
              refine K_then_ret ?_
              have e : decP s = (pkz, 12) := by unfold decP; rw [if_neg (by omega), if_neg (by omega), if_neg (by omega), if_pos (by first | assumption | exact fun e => absurd (sealed_zero (by omega) (by omega) e) (by assumption))]
              exact K_ret2c rfl rfl rfl rfl () trivial (by rw [e]; rfl) Ent.take
        · refine L_gf_off h4 rfl rfl ?_ (fun _ h => by cases h; rfl)
          refine L_gf_off h4 rfl rfl ?_ (fun _ h => by cases h; rfl)
          refine L_gf_off h4 rfl rfl ?_ (fun _ h => by cases h; rfl)
          refine L_gf_off h4 rfl rfl ?_ (fun _ h => by cases h; rfl)
          refine L_v (opv_pick_t rfl h4 rfl) rfl ?_
          refine L_v (opv_move rfl) rfl ?_
          refine L_gskip rfl rfl rfl ?_ (fun _ h => by cases h; rfl)
          refine L_gskip rfl rfl rfl ?_ (fun _ h => by cases h; rfl)
          refine L_gskip rfl rfl rfl ?_ (fun _ h => by cases h; rfl)
          refine L_gskip rfl rfl rfl ?_ (fun _ h => by cases h; rfl)
          first
            | refine L_v (opv_pick_tt rfl rfl) rfl ?_
            | refine L_v (opv_pick_ff rfl rfl) rfl ?_
            | refine L_v (opv_pick rfl rfl rfl) rfl ?_
          refine L_nil ?_
          refine K_then ?_
          refine J_cond_true rfl ?_
          refine J_seq ?_
          refine J_region ?_
          refine L_v (opv_build rfl) rfl ?_
          refine L_x rfl (opx_store rfl rfl rfl (by simp [Value.oneCell'])) (fun _ _ => ?_)
          refine L_v (opv_assign rfl) rfl ?_
          refine L_nil ?_
          refine K_then ?_
          refine J_ret ?_
          refine K_then_ret ?_
          have e : decP s = (pkz, 15) := by unfold decP; rw [if_neg (by omega), if_neg (by omega), if_pos (by omega)]
          exact K_ret2c rfl rfl rfl rfl () trivial (by rw [e]; rfl) Ent.take
      · refine L_gf_off h3 rfl rfl ?_ (fun _ h => by cases h; rfl)
        refine L_v (opv_pick_t rfl h3 rfl) rfl ?_
        refine L_v (opv_move rfl) rfl ?_
        refine L_gskip rfl rfl rfl ?_ (fun _ h => by cases h; rfl)
        refine L_gskip rfl rfl rfl ?_ (fun _ h => by cases h; rfl)
        refine L_gskip rfl rfl rfl ?_ (fun _ h => by cases h; rfl)
        refine L_gskip rfl rfl rfl ?_ (fun _ h => by cases h; rfl)
        refine L_gskip rfl rfl rfl ?_ (fun _ h => by cases h; rfl)
        first
          | refine L_v (opv_pick_tt rfl rfl) rfl ?_
          | refine L_v (opv_pick_ff rfl rfl) rfl ?_
          | refine L_v (opv_pick rfl rfl rfl) rfl ?_
        refine L_v (opv_move rfl) rfl ?_
        refine L_gskip rfl rfl rfl ?_ (fun _ h => by cases h; rfl)
        refine L_gskip rfl rfl rfl ?_ (fun _ h => by cases h; rfl)
        refine L_gskip rfl rfl rfl ?_ (fun _ h => by cases h; rfl)
        refine L_gskip rfl rfl rfl ?_ (fun _ h => by cases h; rfl)
        first
          | refine L_v (opv_pick_tt rfl rfl) rfl ?_
          | refine L_v (opv_pick_ff rfl rfl) rfl ?_
          | refine L_v (opv_pick rfl rfl rfl) rfl ?_
        refine L_nil ?_
        refine K_then ?_
        refine J_cond_true rfl ?_
        refine J_seq ?_
        refine J_region ?_
        refine L_v (opv_build rfl) rfl ?_
        refine L_x rfl (opx_store rfl rfl rfl (by simp [Value.oneCell'])) (fun _ _ => ?_)
        refine L_v (opv_assign rfl) rfl ?_
        refine L_nil ?_
        refine K_then ?_
        refine J_ret ?_
        refine K_then_ret ?_
        have e : decP s = (pkz, 15) := by unfold decP; rw [if_neg (by omega), if_neg (by omega), if_pos (by omega)]
        exact K_ret2c rfl rfl rfl rfl () trivial (by rw [e]; rfl) Ent.take

end Go.Proofs.Ytkkomlcjcgdbeaa
