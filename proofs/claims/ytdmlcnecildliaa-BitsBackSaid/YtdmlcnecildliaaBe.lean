/- Contracts of functions of the translation, each proved by a walk over its code; they are used by the texts that import this one. -/
import Derived.Test.YtdmlcnecildliaaBd
import Derived.Test.YtdmlcnecildliaaH
namespace Go.Proofs.Ytdmlcnecildliaa
open Go.SLA
set_option maxRecDepth 100000
set_option linter.unusedVariables false
set_option linter.unusedSimpArgs false
attribute [local irreducible] J L K QL Rg FSpec OpV OpX Rd Back

/-- Numbers behind each other, each so many bits wide. -/
def pack : Nat → List Int → List Int → Option Nat
  | n, w :: ws, l :: ls => if fitB l w.toNat then pack (n * 2 ^ w.toNat + l.toNat) ws ls else none
  | n, _, _ => some n
theorem pack_drop {ws ls : List Int} {n k : Nat} {v u : Int} (hv : ws[k]? = some v) (hu : ls[k]? = some u) : pack n (ws.drop k) (ls.drop k) = if fitB u v.toNat then pack (n * 2 ^ v.toNat + u.toNat) (ws.drop (k + 1)) (ls.drop (k + 1)) else none := by
  have h1 : k < ws.length := by
    rcases Nat.lt_or_ge k ws.length with h | h
    · exact h
    · rw [List.getElem?_eq_none h] at hv; cases hv
  have h2 : k < ls.length := by
    rcases Nat.lt_or_ge k ls.length with h | h
    · exact h
    · rw [List.getElem?_eq_none h] at hu; cases hu
  rw [List.drop_eq_getElem_cons h1, List.drop_eq_getElem_cons h2]
  rw [List.getElem?_eq_getElem h1] at hv
  rw [List.getElem?_eq_getElem h2] at hu
  simp only [Option.some.injEq] at hv hu
  rw [hv, hu, pack]
/-- What numbers of bits make of a writer. -/
def bitsS (s : ByteArray) (bad : Bool) (ws ls : List Int) : ByteArray × Bool :=
  if bad = true then (s, true) else if sumW ws = 0 ∨ ws.length ≠ ls.length then (s, true) else match pack 0 ws ls with
  | none => (s, true)
  | some n => putS s false n ((sumW ws).toNat / 8)
theorem sumGo_le : ∀ {l : List Int} {t a : Int}, sumGo t l = some a → t ≤ a
  | [], t, a, h => by simp only [sumGo, Option.some.injEq] at h; omega
  | x :: l, t, a, h => by
    rw [sumGo] at h
    split at h
    · cases h
    · have := sumGo_le h
      omega
theorem sumW_some {ws : List Int} (h : sumW ws ≠ 0) : ∃ c : Nat, 1 ≤ c ∧ c ≤ 4 ∧ sumW ws = ((8 * c : Nat) : Int) ∧ sumGo 0 ws = some ((8 * c : Nat) : Int) := by
  unfold sumW at *
  cases hs : sumGo 0 ws with
  | none => rw [hs] at h; exact absurd rfl h
  | some a =>
    rw [hs] at h
    dsimp only at h ⊢
    split at h
    · rename_i h8
      rw [if_pos h8]
      rcases h8 with rfl | rfl | rfl
      · exact ⟨1, by decide, by decide, rfl, rfl⟩
      · exact ⟨2, by decide, by decide, rfl, rfl⟩
      · exact ⟨4, by decide, by decide, rfl, rfl⟩
    · exact absurd rfl h
theorem fit_lt' {m : Int} {w : Nat} (h : fitB m w) (hw : w ≤ 64) : ∃ k : Nat, m = k ∧ k < 2 ^ w := by
  obtain ⟨h0, h1⟩ := h
  obtain ⟨k, rfl⟩ : ∃ k : Nat, m = k := ⟨m.toNat, by omega⟩
  refine ⟨k, rfl, ?_⟩
  rw [Int.toNat_natCast, Nat.min_eq_left hw] at h1
  have e : (2 : Int) ^ w = ((2 ^ w : Nat) : Int) := by rw [Int.natCast_pow]; rfl
  rw [e, ← Int.natCast_ediv] at h1
  have h2 : k / 2 ^ w = 0 := by omega
  rcases Nat.lt_or_ge k (2 ^ w) with h | h
  · exact h
  · have := Nat.div_pos h (Nat.pow_pos (by decide))
    omega
theorem shl_n {n : Nat} {v : Int} (hv : v.toNat ≤ 64) (h : n * 2 ^ v.toNat < 18446744073709551616) : Value.int .u64 (IntKind.u64.wrap ((n : Int) * 2 ^ (min v.toNat IntKind.u64.bits))) = .int .u64 ((n * 2 ^ v.toNat : Nat) : Int) := by
  have e : min v.toNat IntKind.u64.bits = v.toNat := by have : IntKind.u64.bits = 64 := rfl; omega
  have e2 : (2 : Int) ^ v.toNat = ((2 ^ v.toNat : Nat) : Int) := by rw [Int.natCast_pow]; rfl
  rw [e, e2, ← Int.natCast_mul, Go.IntWalk.u64_in _ (by omega)]
theorem or_n {n w u : Nat} (hu : u < 2 ^ w) (h : n * 2 ^ w + u < 18446744073709551616) : Value.int .u64 (IntKind.u64.wrap (((BitVec.ofInt IntKind.u64.bits ((n * 2 ^ w : Nat) : Int) ||| BitVec.ofInt IntKind.u64.bits (u : Int)).toNat : Nat) : Int)) = .int .u64 ((n * 2 ^ w + u : Nat) : Int) := by
  show Value.int .u64 (IntKind.u64.wrap (((BitVec.ofInt 64 ((n * 2 ^ w : Nat) : Int) ||| BitVec.ofInt 64 (u : Int)).toNat : Nat) : Int)) = _
  rw [BitVec.ofInt_natCast, BitVec.ofInt_natCast, BitVec.toNat_or, BitVec.toNat_ofNat, BitVec.toNat_ofNat, Nat.mod_eq_of_lt (by omega), Nat.mod_eq_of_lt (by omega), ← Nat.shiftLeft_eq, ← Nat.shiftLeft_add_eq_or_of_lt hu, Nat.shiftLeft_eq, Go.IntWalk.u64_in _ (by omega)]
theorem grow {n t w u : Nat} (hn : n < 2 ^ t) (hu : u < 2 ^ w) : n * 2 ^ w + u < 2 ^ (t + w) := by
  have : (n + 1) * 2 ^ w ≤ 2 ^ t * 2 ^ w := Nat.mul_le_mul_right _ hn
  rw [Nat.pow_add]
  rw [Nat.add_mul] at this
  omega

theorem Bits_bad (p : Nat) (s : ByteArray) (u v : Value) : FSpec Try.prog 44 #[.pointer (some (ad p 0)), u, v] (WrP p s true) (fun _ : Unit => True) (fun _ => .tuple #[]) (fun _ => WrP p s true) := by
  refine FSpec.enter' Try.func44 rfl Try.ntmps44 rfl fun σ F => ?_
  refine J_ex fun x => ?_
  refine J_eq _ (sep_assoc _ _ _) ?_
  refine J_seq ?_
  refine J_seq ?_
  refine J_region ?_
  refine L_v (opv_move rfl) rfl ?_
  first
    | refine L_v (opv_eql rfl rfl) rfl ?_
    | refine L_v (opv_eqlS rfl rfl) rfl ?_
    | refine L_v (opv_eqlNil rfl rfl) rfl ?_
    | refine L_v (opv_eqlB rfl rfl) rfl ?_
  refine L_v (opv_move rfl) rfl ?_
  refine L_gon rfl rfl rfl ?_
  refine L_v (opv_move rfl) rfl ?_
  refine L_gon rfl rfl rfl ?_
  refine L_v (opv_nilCheck rfl) rfl ?_
  refine L_gon rfl rfl rfl ?_
  first
    | refine L_v (opv_fieldAddr0 rfl) rfl ?_
    | refine L_v (opv_fieldAddr rfl) rfl ?_
  refine L_gon rfl rfl rfl ?_
  refine L_v (opv_load rfl (Rd.look rfl)) rfl ?_
  first
    | refine L_v (opv_pick_tt rfl rfl) rfl ?_
    | refine L_v (opv_pick_ff rfl rfl) rfl ?_
    | refine L_v (opv_pick rfl rfl rfl) rfl ?_
  refine L_nil ?_
  refine K_then ?_
  refine J_cond_true rfl ?_
  refine J_ret ?_
  refine K_then_ret ?_
  exact K_ret0 rfl () trivial rfl (WrP.fold x)

theorem Bits_no0 (p : Nat) (s : ByteArray) (R0 : HProp) (A B : Option Addr) (c1 c2 : Nat) (ws ls : List Int) (hR : RdS R0 encZ 1 A ws) (hL : RdS R0 encZ 1 B ls) (hn : ws.length ≤ 1000000 ∧ ls.length ≤ 1000000) (hw : ∀ v ∈ ws, -9223372036854775808 ≤ v ∧ v ≤ 9223372036854775807) (hl : ∀ v ∈ ls, -9223372036854775808 ≤ v ∧ v ≤ 9223372036854775807) (h : sumW ws = 0) : FSpec Try.prog 44 #[.pointer (some (ad p 0)), .slice A ws.length c1, .slice B ls.length c2] ((sep (WrP p s false) (R0))) (fun _ : Unit => True) (fun _ => .tuple #[]) (fun _ => (sep (WrP p s true) (R0))) := by
  refine FSpec.enter' Try.func44 rfl Try.ntmps44 rfl fun σ F => ?_
  refine J_eq _ (sep_assoc _ _ _) ?_
  refine J_ex fun x => ?_
  refine J_eq _ (sep_assoc _ _ _) ?_
  refine J_seq ?_
  refine J_seq ?_
  refine J_region ?_
  refine L_v (opv_move rfl) rfl ?_
  first
    | refine L_v (opv_eql rfl rfl) rfl ?_
    | refine L_v (opv_eqlS rfl rfl) rfl ?_
    | refine L_v (opv_eqlNil rfl rfl) rfl ?_
    | refine L_v (opv_eqlB rfl rfl) rfl ?_
  refine L_v (opv_move rfl) rfl ?_
  refine L_gon rfl rfl rfl ?_
  refine L_v (opv_move rfl) rfl ?_
  refine L_gon rfl rfl rfl ?_
  refine L_v (opv_nilCheck rfl) rfl ?_
  refine L_gon rfl rfl rfl ?_
  first
    | refine L_v (opv_fieldAddr0 rfl) rfl ?_
    | refine L_v (opv_fieldAddr rfl) rfl ?_
  refine L_gon rfl rfl rfl ?_
  refine L_v (opv_load rfl (Rd.look rfl)) rfl ?_
  first
    | refine L_v (opv_pick_tt rfl rfl) rfl ?_
    | refine L_v (opv_pick_ff rfl rfl) rfl ?_
    | refine L_v (opv_pick rfl rfl rfl) rfl ?_
  refine L_nil ?_
  refine K_then ?_
  refine J_cond_false rfl ?_
  refine J_skip ?_
  refine K_then ?_
  refine J_seq ?_
  refine J_region ?_
  refine L_v (opv_move rfl) rfl ?_
  refine L_x rfl (opx_call0 (sum_spec R0 A c1 ws hR (by omega) hw) rfl rfl rfl) (fun _ _ => ?_)
  refine L_v (opv_assign rfl) rfl ?_
  refine L_nil ?_
  refine K_then ?_
  refine J_seq ?_
  refine J_seq ?_
  refine J_region ?_
  refine L_v (opv_move rfl) rfl ?_
  refine L_v (opv_move rfl) rfl ?_
  refine L_v ((opv_eql rfl rfl).bool_t h) rfl ?_
  refine L_v (opv_move rfl) rfl ?_
  refine L_gskip rfl rfl rfl ?_ (fun _ h => by cases h; rfl)
  refine L_gskip rfl rfl rfl ?_ (fun _ h => by cases h; rfl)
  refine L_gskip rfl rfl rfl ?_ (fun _ h => by cases h; rfl)
  refine L_gskip rfl rfl rfl ?_ (fun _ h => by cases h; rfl)
  refine L_gskip rfl rfl rfl ?_ (fun _ h => by cases h; rfl)
  first
    | refine L_v (opv_pick_tt rfl rfl) rfl ?_
    | refine L_v (opv_pick_ff rfl rfl) rfl ?_
    | refine L_v (opv_pick rfl rfl rfl) rfl ?_
  refine L_v (opv_nilCheck rfl) rfl ?_
  first
    | refine L_v (opv_fieldAddr0 rfl) rfl ?_
    | refine L_v (opv_fieldAddr rfl) rfl ?_
  refine L_x rfl (opx_store rfl rfl rfl (by simp [Value.oneCell'])) (fun _ _ => ?_)
  refine L_nil ?_
  refine K_then ?_
  refine J_seq ?_
  refine J_region ?_
  refine L_v (opv_move rfl) rfl ?_
  refine L_v (opv_nilCheck rfl) rfl ?_
  first
    | refine L_v (opv_fieldAddr0 rfl) rfl ?_
    | refine L_v (opv_fieldAddr rfl) rfl ?_
  refine L_v (opv_load rfl (Rd.look rfl)) rfl ?_
  refine L_nil ?_
  refine K_then ?_
  refine J_cond_true rfl ?_
  refine J_ret ?_
  refine K_then_ret ?_
  exact K_ret0 rfl () trivial rfl (Ent.trans (Ent.take (Q := (sep (cel p [.slice x.1 (ByteArray.size s) x.2, .bool true] 42) (sep (Own 5 1 (.slice x.1 (ByteArray.size s) x.2) (ByteArray.size s) (bts s)) ((sep (R0) (F))))))) (Ent.trans (WrP.fold x) (Ent.of (sep_assoc _ _ _).symm)))

theorem Bits_no1 (p : Nat) (s : ByteArray) (R0 : HProp) (A B : Option Addr) (c1 c2 : Nat) (ws ls : List Int) (hR : RdS R0 encZ 1 A ws) (hL : RdS R0 encZ 1 B ls) (hn : ws.length ≤ 1000000 ∧ ls.length ≤ 1000000) (hw : ∀ v ∈ ws, -9223372036854775808 ≤ v ∧ v ≤ 9223372036854775807) (hl : ∀ v ∈ ls, -9223372036854775808 ≤ v ∧ v ≤ 9223372036854775807) (h : sumW ws ≠ 0) (h2 : ws.length ≠ ls.length) : FSpec Try.prog 44 #[.pointer (some (ad p 0)), .slice A ws.length c1, .slice B ls.length c2] ((sep (WrP p s false) (R0))) (fun _ : Unit => True) (fun _ => .tuple #[]) (fun _ => (sep (WrP p s true) (R0))) := by
  refine FSpec.enter' Try.func44 rfl Try.ntmps44 rfl fun σ F => ?_
  refine J_eq _ (sep_assoc _ _ _) ?_
  refine J_ex fun x => ?_
  refine J_eq _ (sep_assoc _ _ _) ?_
  refine J_seq ?_
  refine J_seq ?_
  refine J_region ?_
  refine L_v (opv_move rfl) rfl ?_
  first
    | refine L_v (opv_eql rfl rfl) rfl ?_
    | refine L_v (opv_eqlS rfl rfl) rfl ?_
    | refine L_v (opv_eqlNil rfl rfl) rfl ?_
    | refine L_v (opv_eqlB rfl rfl) rfl ?_
  refine L_v (opv_move rfl) rfl ?_
  refine L_gon rfl rfl rfl ?_
  refine L_v (opv_move rfl) rfl ?_
  refine L_gon rfl rfl rfl ?_
  refine L_v (opv_nilCheck rfl) rfl ?_
  refine L_gon rfl rfl rfl ?_
  first
    | refine L_v (opv_fieldAddr0 rfl) rfl ?_
    | refine L_v (opv_fieldAddr rfl) rfl ?_
  refine L_gon rfl rfl rfl ?_
  refine L_v (opv_load rfl (Rd.look rfl)) rfl ?_
  first
    | refine L_v (opv_pick_tt rfl rfl) rfl ?_
    | refine L_v (opv_pick_ff rfl rfl) rfl ?_
    | refine L_v (opv_pick rfl rfl rfl) rfl ?_
  refine L_nil ?_
  refine K_then ?_
  refine J_cond_false rfl ?_
  refine J_skip ?_
  refine K_then ?_
  refine J_seq ?_
  refine J_region ?_
  refine L_v (opv_move rfl) rfl ?_
  refine L_x rfl (opx_call0 (sum_spec R0 A c1 ws hR (by omega) hw) rfl rfl rfl) (fun _ _ => ?_)
  refine L_v (opv_assign rfl) rfl ?_
  refine L_nil ?_
  refine K_then ?_
  refine J_seq ?_
  refine J_seq ?_
  refine J_region ?_
  refine L_v (opv_move rfl) rfl ?_
  refine L_v (opv_move rfl) rfl ?_
  refine L_v ((opv_eql rfl rfl).bool_f h) rfl ?_
  refine L_v (opv_move rfl) rfl ?_
  refine L_gon rfl rfl rfl ?_
  refine L_v (opv_move rfl) rfl ?_
  refine L_gon rfl rfl rfl ?_
  first
    | refine L_v (opv_lenL rfl) rfl ?_
    | refine L_v (opv_lenS rfl) rfl ?_
  refine L_gon rfl rfl rfl ?_
  refine L_v (opv_move rfl) rfl ?_
  refine L_gon rfl rfl rfl ?_
  first
    | refine L_v (opv_lenL rfl) rfl ?_
    | refine L_v (opv_lenS rfl) rfl ?_
  refine L_gon rfl rfl rfl ?_
  refine L_v ((opv_neq rfl rfl).bool_t (by omega)) rfl ?_
  first
    | refine L_v (opv_pick_tt rfl rfl) rfl ?_
    | refine L_v (opv_pick_ff rfl rfl) rfl ?_
    | refine L_v (opv_pick rfl rfl rfl) rfl ?_
  refine L_v (opv_nilCheck rfl) rfl ?_
  first
    | refine L_v (opv_fieldAddr0 rfl) rfl ?_
    | refine L_v (opv_fieldAddr rfl) rfl ?_
  refine L_x rfl (opx_store rfl rfl rfl (by simp [Value.oneCell'])) (fun _ _ => ?_)
  refine L_nil ?_
  refine K_then ?_
  refine J_seq ?_
  refine J_region ?_
  refine L_v (opv_move rfl) rfl ?_
  refine L_v (opv_nilCheck rfl) rfl ?_
  first
    | refine L_v (opv_fieldAddr0 rfl) rfl ?_
    | refine L_v (opv_fieldAddr rfl) rfl ?_
  refine L_v (opv_load rfl (Rd.look rfl)) rfl ?_
  refine L_nil ?_
  refine K_then ?_
  refine J_cond_true rfl ?_
  refine J_ret ?_
  refine K_then_ret ?_
  exact K_ret0 rfl () trivial rfl (Ent.trans (Ent.take (Q := (sep (cel p [.slice x.1 (ByteArray.size s) x.2, .bool true] 42) (sep (Own 5 1 (.slice x.1 (ByteArray.size s) x.2) (ByteArray.size s) (bts s)) ((sep (R0) (F))))))) (Ent.trans (WrP.fold x) (Ent.of (sep_assoc _ _ _).symm)))

theorem Bits_go (p : Nat) (s : ByteArray) (R0 : HProp) (A B : Option Addr) (c1 c2 : Nat) (ws ls : List Int) (hR : RdS R0 encZ 1 A ws) (hL : RdS R0 encZ 1 B ls) (hn : ws.length ≤ 1000000 ∧ ls.length ≤ 1000000) (hw : ∀ v ∈ ws, -9223372036854775808 ≤ v ∧ v ≤ 9223372036854775807) (hl : ∀ v ∈ ls, -9223372036854775808 ≤ v ∧ v ≤ 9223372036854775807) (hne : sumW ws ≠ 0) (hlen : ws.length = ls.length) (hs : s.size ≤ 1099511627776) : FSpec Try.prog 44 #[.pointer (some (ad p 0)), .slice A ws.length c1, .slice B ls.length c2] ((sep (WrP p s false) (R0))) (fun _ : Unit => True) (fun _ => .tuple #[]) (fun _ => (sep (WrP p (bitsS s false ws ls).1 (bitsS s false ws ls).2) (R0))) := by
  obtain ⟨c, hc1, hc4, hcw, hcs⟩ := sumW_some hne
  refine FSpec.enter' Try.func44 rfl Try.ntmps44 rfl fun σ F => ?_
  refine J_eq _ (sep_assoc _ _ _) ?_
  refine J_ex fun x => ?_
  refine J_eq _ (sep_assoc _ _ _) ?_
  refine J_seq ?_
  refine J_seq ?_
  refine J_region ?_
  refine L_v (opv_move rfl) rfl ?_
  first
    | refine L_v (opv_eql rfl rfl) rfl ?_
    | refine L_v (opv_eqlS rfl rfl) rfl ?_
    | refine L_v (opv_eqlNil rfl rfl) rfl ?_
    | refine L_v (opv_eqlB rfl rfl) rfl ?_
  refine L_v (opv_move rfl) rfl ?_
  refine L_gon rfl rfl rfl ?_
  refine L_v (opv_move rfl) rfl ?_
  refine L_gon rfl rfl rfl ?_
  refine L_v (opv_nilCheck rfl) rfl ?_
  refine L_gon rfl rfl rfl ?_
  first
    | refine L_v (opv_fieldAddr0 rfl) rfl ?_
    | refine L_v (opv_fieldAddr rfl) rfl ?_
  refine L_gon rfl rfl rfl ?_
  refine L_v (opv_load rfl (Rd.look rfl)) rfl ?_
  first
    | refine L_v (opv_pick_tt rfl rfl) rfl ?_
    | refine L_v (opv_pick_ff rfl rfl) rfl ?_
    | refine L_v (opv_pick rfl rfl rfl) rfl ?_
  refine L_nil ?_
  refine K_then ?_
  refine J_cond_false rfl ?_
  refine J_skip ?_
  refine K_then ?_
  refine J_seq ?_
  refine J_region ?_
  refine L_v (opv_move rfl) rfl ?_
  refine L_x rfl (opx_call0 (sum_spec R0 A c1 ws hR (by omega) hw) rfl rfl rfl) (fun _ _ => ?_)
  rw [hcw]
  refine L_v (opv_assign rfl) rfl ?_
  refine L_nil ?_
  refine K_then ?_
  refine J_seq ?_
  refine J_seq ?_
  refine J_region ?_
  refine L_v (opv_move rfl) rfl ?_
  refine L_v (opv_move rfl) rfl ?_
  refine L_v ((opv_eql rfl rfl).bool_f (by omega)) rfl ?_
  refine L_v (opv_move rfl) rfl ?_
  refine L_gon rfl rfl rfl ?_
  refine L_v (opv_move rfl) rfl ?_
  refine L_gon rfl rfl rfl ?_
  first
    | refine L_v (opv_lenL rfl) rfl ?_
    | refine L_v (opv_lenS rfl) rfl ?_
  refine L_gon rfl rfl rfl ?_
  refine L_v (opv_move rfl) rfl ?_
  refine L_gon rfl rfl rfl ?_
  first
    | refine L_v (opv_lenL rfl) rfl ?_
    | refine L_v (opv_lenS rfl) rfl ?_
  refine L_gon rfl rfl rfl ?_
  refine L_v ((opv_neq rfl rfl).bool_f (by omega)) rfl ?_
  first
    | refine L_v (opv_pick_tt rfl rfl) rfl ?_
    | refine L_v (opv_pick_ff rfl rfl) rfl ?_
    | refine L_v (opv_pick rfl rfl rfl) rfl ?_
  refine L_v (opv_nilCheck rfl) rfl ?_
  first
    | refine L_v (opv_fieldAddr0 rfl) rfl ?_
    | refine L_v (opv_fieldAddr rfl) rfl ?_
  refine L_x rfl (opx_store rfl rfl rfl (by simp [Value.oneCell'])) (fun _ _ => ?_)
  refine L_nil ?_
  refine K_then ?_
  refine J_seq ?_
  refine J_region ?_
  refine L_v (opv_move rfl) rfl ?_
  refine L_v (opv_nilCheck rfl) rfl ?_
  first
    | refine L_v (opv_fieldAddr0 rfl) rfl ?_
    | refine L_v (opv_fieldAddr rfl) rfl ?_
  refine L_v (opv_load rfl (Rd.look rfl)) rfl ?_
  refine L_nil ?_
  refine K_then ?_
  refine J_cond_false rfl ?_
  refine J_skip ?_
  refine K_then ?_
  refine J_seq ?_
  refine J_region ?_
  refine L_v (opv_assign rfl) rfl ?_
  refine L_nil ?_
  refine K_then ?_
  refine J_seq ?_
  refine J_seq ?_
  refine J_region ?_
  refine L_v (opv_move rfl) rfl ?_
  first
    | refine L_v (opv_lenL rfl) rfl ?_
    | refine L_v (opv_lenS rfl) rfl ?_
  refine L_v (opv_move rfl) rfl ?_
  refine L_nil ?_
  refine K_then ?_
  refine J_block ?_
  refine J_loop (X := Nat × Nat × Nat) (fun y => [(0, .pointer (some (ad p 0))), (1, .slice A ws.length c1), (6, .int .i64 (8 * c : Nat)), (7, .int .u64 y.2.1), (36, .slice B ls.length c2), (37, .int .i64 ls.length), (38, .int .i64 y.1)]) (fun y => (sep (cel p [.slice x.1 (ByteArray.size s) x.2, .bool false] 42) (sep (Own 5 1 (.slice x.1 (ByteArray.size s) x.2) (ByteArray.size s) (bts s)) (sep (R0) (F))))) (fun y => y.1 ≤ ls.length ∧ 8 * c ≤ 32 ∧ y.2.1 < 2 ^ y.2.2 ∧ pack 0 ws ls = pack y.2.1 (ws.drop y.1) (ls.drop y.1) ∧ sumGo (y.2.2 : Int) (ws.drop y.1) = some ((8 * c : Nat) : Int)) (fun y => ls.length - y.1) ((0, 0, 0)) ⟨Nat.zero_le _, by omega, by decide, rfl, hcs⟩ ⟨rfl, rfl, rfl, rfl, rfl, rfl, rfl, trivial⟩ Ent.take (fun y hy => ?_)
  obtain ⟨hk, hc32, hlt, hpk, hsum⟩ := hy
  have ht := sumGo_le hsum
  refine J_seq ?_
  refine J_region ?_
  refine L_v (opv_lss rfl rfl) rfl ?_
  refine L_nil ?_
  refine K_then ?_
  refine J_seq ?_
  refine J_cond rfl (fun h1 => ?_) (fun h1 => ?_)
  · have hkl : y.1 < ls.length := by omega
    obtain ⟨v, hv⟩ : ∃ v, ws[y.1]? = some v := ⟨_, List.getElem?_eq_getElem (show y.1 < ws.length by omega)⟩
    obtain ⟨u, hu⟩ : ∃ u, ls[y.1]? = some u := ⟨_, List.getElem?_eq_getElem hkl⟩
    obtain ⟨b, o, rfl⟩ := hR.nonnil y.1 (by omega)
    obtain ⟨b2, o2, rfl⟩ := hL.nonnil y.1 hkl
    have hpd := pack_drop (n := y.2.1) hv hu
    have hsd := sumGo_drop (n := (y.2.2 : Int)) hv
    have hwv := hw v (List.mem_of_getElem? hv)
    have hlu := hl u (List.mem_of_getElem? hu)
    have hv1 : 1 ≤ v ∧ v ≤ 32 := by (rw [hsum] at hsd; split at hsd; cases hsd; omega)
    rw [if_neg (by omega), hsum] at hsd
    have htv := sumGo_le hsd.symm
    obtain ⟨w, rfl⟩ : ∃ w : Nat, v = w := ⟨v.toNat, by omega⟩
    refine J_skip ?_
    refine K_then ?_
    refine J_seq ?_
    refine J_block ?_
    refine J_seq ?_
    refine J_region ?_
    refine L_v (opv_move rfl) rfl ?_
    first
      | refine L_v (opv_indexAddr rfl rfl (by omega)) rfl ?_
      | refine L_v (opv_indexAddrA rfl rfl (by omega)) rfl ?_
    refine L_v (opv_load rfl (Rd.of_take (S := R0) (hL.rd b2 o2 rfl y.1 u 0 _ hu rfl))) rfl ?_
    refine L_v (opv_assign rfl) rfl ?_
    refine L_v (opv_assign rfl) rfl ?_
    refine L_nil ?_
    refine K_then ?_
    refine J_seq ?_
    refine J_seq ?_
    refine J_region ?_
    refine L_v (opv_move rfl) rfl ?_
    refine L_v (opv_move rfl) rfl ?_
    refine L_v (opv_move rfl) rfl ?_
    refine L_v (opv_move rfl) rfl ?_
    first
      | refine L_v (opv_indexAddr rfl rfl (by omega)) rfl ?_
      | refine L_v (opv_indexAddrA rfl rfl (by omega)) rfl ?_
    refine L_v (opv_load rfl (Rd.of_take (S := R0) (hR.rd b o rfl y.1 (w : Int) 0 _ hv rfl))) rfl ?_
    refine L_x rfl (opx_call0 (bfits_spec u (w : Int) (by omega) hlu) rfl rfl rfl) (fun _ _ => ?_)
    refine L_emp ?_
    first
      | refine L_v (opv_notD rfl) rfl ?_
      | refine L_v (opv_not rfl) rfl ?_
    refine L_v (opv_nilCheck rfl) rfl ?_
    first
      | refine L_v (opv_fieldAddr0 rfl) rfl ?_
      | refine L_v (opv_fieldAddr rfl) rfl ?_
    refine L_x rfl (opx_store rfl rfl rfl (by simp [Value.oneCell'])) (fun _ _ => ?_)
    refine L_nil ?_
    refine K_then ?_
    refine J_seq ?_
    refine J_region ?_
    refine L_v (opv_move rfl) rfl ?_
    refine L_v (opv_nilCheck rfl) rfl ?_
    first
      | refine L_v (opv_fieldAddr0 rfl) rfl ?_
      | refine L_v (opv_fieldAddr rfl) rfl ?_
    refine L_v (opv_load rfl (Rd.look rfl)) rfl ?_
    refine L_nil ?_
    refine K_then ?_
    refine J_cond rfl (fun h2 => ?_) (fun h2 => ?_)
    · rw [decide_eq_true h2]
      refine J_ret ?_
      refine K_then_ret ?_
      refine K_block_ret ?_
      refine K_then_ret ?_
      refine K_then_ret ?_
      refine K_block_ret ?_
      refine K_then_ret ?_
      rw [if_neg (show ¬ fitB u ((w : Int)).toNat from h2)] at hpd
      rw [show bitsS s false ws ls = (s, true) by unfold bitsS; rw [if_neg (by decide), if_neg (by omega), hpk, hpd]]
      exact K_ret0 rfl () trivial rfl (Ent.trans (Ent.take (Q := (sep (cel p [.slice x.1 (ByteArray.size s) x.2, .bool true] 42) (sep (Own 5 1 (.slice x.1 (ByteArray.size s) x.2) (ByteArray.size s) (bts s)) ((sep (R0) (F))))))) (Ent.trans (WrP.fold x) (Ent.of (sep_assoc _ _ _).symm)))
    · have hfit : fitB u w := Classical.not_not.1 h2
      obtain ⟨k, rfl, hk2⟩ := fit_lt' hfit (by omega)
      have hgr := grow hlt hk2
      have hp32 : 2 ^ (y.2.2 + w) ≤ 4294967296 := Nat.le_trans (Nat.pow_le_pow_right (by decide) (show y.2.2 + w ≤ 32 by omega)) (by decide)
      rw [show (↑w : Int).toNat = w from rfl, if_pos hfit] at hpd
      rw [decide_eq_false h2]
      refine J_skip ?_
      refine K_then ?_
      refine J_region ?_
      refine L_v (opv_move rfl) rfl ?_
      refine L_v (opv_move rfl) rfl ?_
      refine L_v (opv_move rfl) rfl ?_
      first
        | refine L_v (opv_indexAddr rfl rfl (by omega)) rfl ?_
        | refine L_v (opv_indexAddrA rfl rfl (by omega)) rfl ?_
      refine L_v (opv_load rfl (Rd.of_take (S := R0) (hR.rd b o rfl y.1 (w : Int) 0 _ hv rfl))) rfl ?_
      first
        | refine L_v (opv_convW rfl (Go.IntWalk.u64_in _ (by omega))) rfl ?_
        | refine L_v (opv_convert rfl) rfl ?_
      refine L_v ((opv_shl rfl rfl (by omega)).as (shl_n (v := (w : Int)) (by show w ≤ 64; omega) (by show y.2.1 * 2 ^ w < _; omega))) rfl ?_
      refine L_v (opv_move rfl) rfl ?_
      first
        | refine L_v (opv_convW rfl (Go.IntWalk.u64_in _ (by omega))) rfl ?_
        | refine L_v (opv_convert rfl) rfl ?_
      refine L_v ((opv_or rfl rfl).as (or_n hk2 (by omega))) rfl ?_
      refine L_v (opv_assign rfl) rfl ?_
      refine L_nil ?_
      refine K_block ?_
      refine K_then ?_
      refine J_region ?_
      first
        | refine L_v (opv_add64 rfl rfl (by omega)) rfl ?_
        | refine L_v (opv_addS rfl rfl (by omega)) rfl ?_
        | refine L_v (opv_add rfl rfl) rfl ?_
      refine L_v (opv_move rfl) rfl ?_
      refine L_nil ?_
      exact K_loop ((y.1 + 1, y.2.1 * 2 ^ w + k, y.2.2 + w)) ⟨by show y.1 + 1 ≤ _; omega, by show 8 * c ≤ 32; omega, by show y.2.1 * 2 ^ w + k < 2 ^ (y.2.2 + w); exact hgr, by rw [hpk, hpd]; rfl, by rw [hsd]; rfl⟩ (by show _ - (y.1 + 1) < _; omega) ⟨rfl, rfl, rfl, rfl, rfl, rfl, rfl, trivial⟩ (by first | exact Ent.take | exact Ent.refl _)
  · have he : y.1 = ls.length := by omega
    have hp32 : 2 ^ y.2.2 ≤ 4294967296 := Nat.le_trans (Nat.pow_le_pow_right (by decide) (show y.2.2 ≤ 32 by omega)) (by decide)
    refine J_imp (sep (WrP p s false) ((sep (R0) (F)))) (WrP.fold x) ?_
    refine J_exit ?_
    refine K_then_exit ?_
    refine K_then_exit ?_
    refine K_block_here ?_
    refine K_then ?_
    refine J_region ?_
    refine L_v (opv_move rfl) rfl ?_
    refine L_v (opv_move rfl) rfl ?_
    first
      | refine L_v (opv_convW rfl (Go.IntWalk.i64_in _ (by omega))) rfl ?_
      | refine L_v (opv_convert rfl) rfl ?_
    refine L_v (opv_move rfl) rfl ?_
    refine L_x rfl (opx_call0 (put_any p s false ((y.2.1 : Nat) : Int) c (by omega) (by omega) hs) rfl rfl rfl) (fun _ _ => ?_)
    refine L_nil ?_
    have e0 : pack 0 ws ls = some y.2.1 := by
      rw [hpk, he, List.drop_length, ← hlen, List.drop_length]
      rfl
    have e1 : bitsS s false ws ls = putS s false y.2.1 c := by
      unfold bitsS
      rw [if_neg (by decide), if_neg (by omega), e0, hcw]
      show putS s false y.2.1 ((8 * c) / 8) = _
      rw [Nat.mul_div_cancel_left _ (by decide)]
    rw [e1]
    exact K_end0 rfl () trivial rfl (Ent.trans Ent.take (Ent.of (sep_assoc _ _ _).symm))

end Go.Proofs.Ytdmlcnecildliaa
