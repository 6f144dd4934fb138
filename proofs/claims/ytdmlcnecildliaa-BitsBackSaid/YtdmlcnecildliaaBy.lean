/- Plain laws of what is written and read again, and contracts of a reader at bytes that were written; used by the text that imports this one. -/
import Derived.Test.YtdmlcnecildliaaBx
import Derived.Test.YtdmlcnecildliaaPc
import Derived.Test.YtdmlcnecildliaaH
namespace Go.Proofs.Ytdmlcnecildliaa
open Go.SLA
set_option maxRecDepth 100000
set_option linter.unusedVariables false
set_option linter.unusedSimpArgs false
attribute [local irreducible] J L K QL Rg FSpec OpV OpX Rd Back

theorem bn_be (m : Nat) : ∀ (c i : Nat), i < c → bn (be m c) i = m / 256 ^ (c - 1 - i) % 256
  | 0, i, h => absurd h (Nat.not_lt_zero _)
  | c + 1, 0, _ => by rw [bn_be0, show c + 1 - 1 - 0 = c by omega]
  | c + 1, i + 1, h => by rw [bn_be1, bn_be m c i (by omega), show c + 1 - 1 - (i + 1) = c - 1 - i by omega]
theorem numB_be (m c : Nat) : ∀ k, k ≤ c → numB (be m c) k = m / 256 ^ (c - k) % 256 ^ k
  | 0, _ => by rw [numB, Nat.pow_zero, Nat.mod_one]
  | k + 1, h => by
    rw [numB, numB_be m c k (by omega), bn_be m c k (by omega)]
    have e1 : c - k = (c - (k + 1)) + 1 := by omega
    have e2 : c - 1 - k = c - (k + 1) := by omega
    rw [e2, e1, Nat.pow_succ, ← Nat.div_div_eq_div_mul]
    generalize m / 256 ^ (c - (k + 1)) = q
    rw [Nat.pow_succ, Nat.mul_comm (256 ^ k) 256, Nat.mod_mul]
    omega
theorem numB_all {m c : Nat} (h : m < 256 ^ c) : numB (be m c) c = m := by
  rw [numB_be m c c (Nat.le_refl _), Nat.sub_self, Nat.pow_zero, Nat.div_one, Nat.mod_eq_of_lt h]
theorem ex_l {a b : ByteArray} {c : Nat} (h : a.size = c) : (a ++ b).extract 0 c = a := ByteArray.extract_append_eq_left (by rw [h])
theorem ex_r {a b : ByteArray} {c : Nat} (h : a.size = c) : (a ++ b).extract c (a ++ b).size = b := ByteArray.extract_append_eq_right (by rw [h]) (by rw [ByteArray.size_append, h])
theorem textS_app {a b : ByteArray} {c : Nat} (h : a.size = c) : textS (a ++ b) 0 c = (a, b, 0) := by
  rw [textS_ok _ c (by rw [ByteArray.size_append]; omega), ex_l h, ex_r h]
theorem unp_pack : ∀ {ws ls : List Int} {a t T n : Nat}, pack a ws ls = some n → ws.length = ls.length → sumGo (t : Int) ws = some ((T : Nat) : Int) → unp n (T - t) ws = ls ∧ n / 2 ^ (T - t) = a
  | [], [], a, t, T, n, hp, _, hs => by
    simp only [pack, Option.some.injEq] at hp
    simp only [sumGo, Option.some.injEq] at hs
    have : T - t = 0 := by omega
    rw [this, Nat.pow_zero, Nat.div_one, hp]
    exact ⟨rfl, rfl⟩
  | [], _ :: _, _, _, _, _, _, hl, _ => by simp at hl
  | _ :: _, [], _, _, _, _, _, hl, _ => by simp at hl
  | w :: ws, l :: ls, a, t, T, n, hp, hl, hs => by
    rw [sumGo] at hs
    split at hs
    · cases hs
    · obtain ⟨k, rfl⟩ : ∃ k : Nat, w = k := ⟨w.toNat, by omega⟩
      have hle := sumGo_le hs
      rw [pack] at hp
      split at hp
      · rename_i hf
        rw [Int.toNat_natCast] at hf hp
        obtain ⟨u, rfl, hu⟩ := fit_lt' hf (by omega)
        rw [Int.toNat_natCast] at hp
        have ih := unp_pack (t := t + k) (T := T) hp (by simpa using hl) (by rw [Int.natCast_add]; exact hs)
        rw [unp, Int.toNat_natCast, show T - t - k = T - (t + k) by omega, ih.1, ih.2]
        have e1 : (a * 2 ^ k + u) % 2 ^ k = u := by rw [Nat.mul_comm, Nat.mul_add_mod, Nat.mod_eq_of_lt hu]
        have e2 : n / 2 ^ (T - t) = a := by
          rw [show T - t = (T - (t + k)) + k by omega, Nat.pow_add, ← Nat.div_div_eq_div_mul, ih.2, Nat.mul_comm, Nat.mul_add_div (Nat.pow_pos (by decide)), Nat.div_eq_of_lt hu, Nat.add_zero]
        rw [e1]
        exact ⟨rfl, e2⟩
      · cases hp
theorem pack_lt : ∀ {ws ls : List Int} {a t T n : Nat}, pack a ws ls = some n → ws.length = ls.length → sumGo (t : Int) ws = some ((T : Nat) : Int) → a < 2 ^ t → n < 2 ^ T
  | [], [], a, t, T, n, hp, _, hs, ha => by
    simp only [pack, Option.some.injEq] at hp
    simp only [sumGo, Option.some.injEq] at hs
    have : T = t := by omega
    rw [this, ← hp]
    exact ha
  | [], _ :: _, _, _, _, _, _, hl, _, _ => by simp at hl
  | _ :: _, [], _, _, _, _, _, hl, _, _ => by simp at hl
  | w :: ws, l :: ls, a, t, T, n, hp, hl, hs, ha => by
    rw [sumGo] at hs
    split at hs
    · cases hs
    · obtain ⟨k, rfl⟩ : ∃ k : Nat, w = k := ⟨w.toNat, by omega⟩
      rw [pack] at hp
      split at hp
      · rename_i hf
        rw [Int.toNat_natCast] at hf hp
        obtain ⟨u, rfl, hu⟩ := fit_lt' hf (by omega)
        rw [Int.toNat_natCast] at hp
        exact pack_lt (t := t + k) hp (by simpa using hl) (by rw [Int.natCast_add]; exact hs) (grow ha hu)
      · cases hp
/-- The bytes of a thing. -/
def Reads (x : It) (e : ByteArray) : Prop :=
  if x.ask = 0 then ∃ k : Nat, x.num = k ∧ k < 256 ^ 1 ∧ e = be k 1 else if x.ask = 1 then ∃ k : Nat, x.num = k ∧ k < 256 ^ 2 ∧ e = be k 2 else if x.ask = 2 then ∃ k : Nat, x.num = k ∧ k < 256 ^ 4 ∧ e = be k 4
  else if x.ask = 3 then e = x.s else if x.ask = 4 then ∃ c n : Nat, (1 ≤ c ∧ c ≤ 4) ∧ sumW x.ws = ((8 * c : Nat) : Int) ∧ sumGo 0 x.ws = some ((8 * c : Nat) : Int) ∧ n < 256 ^ c ∧ unp n (8 * c) x.ws = x.ls ∧ e = be n c else e = ByteArray.empty
theorem put_reads {s : ByteArray} {m : Int} {c : Nat} (h : (putS s false m c).2 = false) (hc : c ≤ 4) : ∃ k : Nat, m = k ∧ k < 256 ^ c ∧ (putS s false m c).1 = s ++ be k c := by
  unfold putS at h ⊢
  rw [if_neg (by decide)] at h ⊢
  by_cases hf : fitB m (8 * c)
  · rw [if_pos hf]
    obtain ⟨k, rfl, hk⟩ := fit_lt' hf (by omega)
    refine ⟨k, rfl, ?_, by rw [Int.toNat_natCast]⟩
    rw [Nat.pow_mul] at hk
    exact hk
  · rw [if_neg hf] at h; cases h
theorem wrS_reads {s : ByteArray} {x : It} (h : (wrS s false x).2 = false) : ∃ e, (wrS s false x).1 = s ++ e ∧ Reads x e := by
  unfold wrS at h ⊢
  unfold Reads
  by_cases h0 : x.ask = 0
  · rw [if_pos h0] at h
    simp only [if_pos h0]
    obtain ⟨k, a, b, c⟩ := put_reads h (by decide)
    exact ⟨_, c, k, a, b, rfl⟩
  · rw [if_neg h0] at h
    simp only [if_neg h0]
    by_cases h1 : x.ask = 1
    · rw [if_pos h1] at h
      simp only [if_pos h1]
      obtain ⟨k, a, b, c⟩ := put_reads h (by decide)
      exact ⟨_, c, k, a, b, rfl⟩
    · rw [if_neg h1] at h
      simp only [if_neg h1]
      by_cases h2 : x.ask = 2
      · rw [if_pos h2] at h
        simp only [if_pos h2]
        obtain ⟨k, a, b, c⟩ := put_reads h (by decide)
        exact ⟨_, c, k, a, b, rfl⟩
      · rw [if_neg h2] at h
        simp only [if_neg h2]
        by_cases h3 : x.ask = 3
        · simp only [if_pos h3]
          exact ⟨x.s, rfl, rfl⟩
        · rw [if_neg h3] at h
          simp only [if_neg h3]
          by_cases h4 : x.ask = 4
          · rw [if_pos h4] at h
            simp only [if_pos h4]
            unfold bitsS at h ⊢
            rw [if_neg (by decide)] at h ⊢
            by_cases hw : sumW x.ws = 0 ∨ x.ws.length ≠ x.ls.length
            · rw [if_pos hw] at h; cases h
            · rw [if_neg hw] at h ⊢
              obtain ⟨c, c1, c2, hcw, hcs⟩ := sumW_some (fun g => hw (.inl g))
              have hlen : x.ws.length = x.ls.length := Classical.not_not.1 fun g => hw (.inr g)
              cases hp : pack 0 x.ws x.ls with
              | none => rw [hp] at h; cases h
              | some n =>
                rw [hp] at h
                dsimp only at h ⊢
                have hu := unp_pack (t := 0) hp hlen hcs
                have hn := pack_lt (t := 0) hp hlen hcs (by decide)
                rw [hcw] at h ⊢
                have e8 : ((8 * c : Nat) : Int).toNat / 8 = c := by rw [Int.toNat_natCast]; omega
                rw [e8] at h ⊢
                obtain ⟨k, hk, b, e⟩ := put_reads h c2
                have : n = k := by omega
                subst this
                exact ⟨_, e, c, n, ⟨c1, c2⟩, rfl, hcs, b, by rw [← hu.1, Nat.sub_zero], rfl⟩
          · simp only [if_neg h4]
            exact ⟨ByteArray.empty, by simp, rfl⟩
theorem wrS_bad {s : ByteArray} {x : It} : (wrS s true x).2 = true := by
  unfold wrS txtS
  rw [putS_true, putS_true, putS_true, bitsS_true]
  split
  · rfl
  · split
    · rfl
    · split
      · rfl
      · split
        · rfl
        · split <;> rfl
/-- A writer behind things. -/
def runW : ByteArray × Bool → List It → ByteArray × Bool
  | q, [] => q
  | q, x :: l => runW (wrS q.1 q.2 x) l
/-- The bytes of things. -/
def Enc : List It → ByteArray → Prop
  | [], e => e = ByteArray.empty
  | x :: l, e => ∃ e1 e2, e = e1 ++ e2 ∧ Reads x e1 ∧ Enc l e2
theorem runW_bad : ∀ {l : List It} {s : ByteArray}, (runW (s, true) l).2 = true
  | [], _ => rfl
  | x :: l, s => by
    have h := wrS_bad (s := s) (x := x)
    show (runW (wrS s true x) l).2 = true
    rw [show wrS s true x = ((wrS s true x).1, true) from Prod.ext rfl h]
    exact runW_bad
theorem runW_enc : ∀ {l : List It} {s : ByteArray}, (runW (s, false) l).2 = false → ∃ e, (runW (s, false) l).1 = s ++ e ∧ Enc l e
  | [], s, _ => ⟨ByteArray.empty, by simp [runW], rfl⟩
  | x :: l, s, h => by
    have h' : (runW (wrS s false x) l).2 = false := h
    show ∃ e, (runW (wrS s false x) l).1 = s ++ e ∧ _
    cases hb : (wrS s false x).2 with
    | true =>
      rw [show wrS s false x = ((wrS s false x).1, true) from Prod.ext rfl hb, runW_bad] at h'
      cases h'
    | false =>
      obtain ⟨e1, h1, h2⟩ := wrS_reads hb
      have hw : wrS s false x = (s ++ e1, false) := Prod.ext h1 hb
      rw [hw] at h' ⊢
      obtain ⟨e2, h3, h4⟩ := runW_enc h'
      exact ⟨e1 ++ e2, by rw [h3, ByteArray.append_assoc], e1, e2, rfl, h2, h4⟩
theorem RText_app (p : Nat) (a b : ByteArray) : FSpec Try.prog 28 #[.pointer (some (ad p 0)), .int .i64 (a.size : Nat)] (cel p [.string (a ++ b), .int .i64 0] 85) (fun _ : Unit => True) (fun _ => .string a) (fun _ => cel p [.string b, .int .i64 0] 85) := by
  have := RText_any p (a ++ b) 0 (a.size : Int)
  rw [textS_app rfl] at this
  exact this
theorem RBits_app (p : Nat) (n c : Nat) (hc : 1 ≤ c ∧ c ≤ 4) (hn : n < 256 ^ c) (b : ByteArray) (W : World) (x : It) (ok : okIt W x) (hx : Small x) (hcw : sumW x.ws = ((8 * c : Nat) : Int)) (hcs : sumGo 0 x.ws = some ((8 * c : Nat) : Int)) (hu : unp n (8 * c) x.ws = x.ls) : FSpec Try.prog 39 #[.pointer (some (ad p 0)), .slice x.wa x.wl x.wc] (sep (cel p [.string (be n c ++ b), .int .i64 0] 85) (old W)) (fun _ : Option Addr × Nat => True) (fun r => .slice r.1 x.ls.length r.2) (fun r => (sep (Own 3 1 (.slice r.1 x.ls.length r.2) x.ls.length (x.ls.flatMap encZ)) (sep (cel p [.string b, .int .i64 0] 85) (old W)))) := by
  have ew := ok.wi.1
  have hw := hx.w
  have hsz : (be n c).size = c := be_size n c
  have := RBits_go p (be n c ++ b) (old W) x.wa x.wc x.ws (RdS.old ok.wi) (by omega) (fun v hv => wf64 (ok.ws v hv)) c hc hcw hcs (by rw [ByteArray.size_append]; omega)
  rw [ex_l hsz, ex_r hsz, numB_all hn, hu, ew] at this
  exact this

theorem RU8_app (p : Nat) (k : Nat) (hk : k < 256 ^ 1) (b : ByteArray) : FSpec Try.prog 37 #[.pointer (some (ad p 0))] (cel p [.string (be k 1 ++ b), .int .i64 0] 85) (fun _ : Unit => True) (fun _ => .int .i64 (k : Nat)) (fun _ => cel p [.string b, .int .i64 0] 85) := by
  have := RU8_spec p (be k 1 ++ b) 0
  rw [textS_app (be_size k 1), show nextC 1 (be k 1 ++ b, 0) = (b, 0) by unfold nextC; dsimp only; rw [textS_app (be_size k 1)]] at this
  dsimp only at this
  rw [be_size, numB_all hk] at this
  exact this

theorem RU16_app (p : Nat) (k : Nat) (hk : k < 256 ^ 2) (b : ByteArray) : FSpec Try.prog 33 #[.pointer (some (ad p 0))] (cel p [.string (be k 2 ++ b), .int .i64 0] 85) (fun _ : Unit => True) (fun _ => .int .i64 (k : Nat)) (fun _ => cel p [.string b, .int .i64 0] 85) := by
  have := RU16_spec p (be k 2 ++ b) 0
  rw [textS_app (be_size k 2), show nextC 2 (be k 2 ++ b, 0) = (b, 0) by unfold nextC; dsimp only; rw [textS_app (be_size k 2)]] at this
  dsimp only at this
  rw [be_size, numB_all hk] at this
  exact this

theorem RU32_app (p : Nat) (k : Nat) (hk : k < 256 ^ 4) (b : ByteArray) : FSpec Try.prog 32 #[.pointer (some (ad p 0))] (cel p [.string (be k 4 ++ b), .int .i64 0] 85) (fun _ : Unit => True) (fun _ => .int .i64 (k : Nat)) (fun _ => cel p [.string b, .int .i64 0] 85) := by
  have := RU32_spec p (be k 4 ++ b) 0
  rw [textS_app (be_size k 4), show nextC 4 (be k 4 ++ b, 0) = (b, 0) by unfold nextC; dsimp only; rw [textS_app (be_size k 4)]] at this
  dsimp only at this
  rw [be_size, numB_all hk] at this
  exact this

theorem ints_spec (R0 : HProp) (A B : Option Addr) (c1 c2 : Nat) (ls : List Int) (hR : RdS R0 encZ 1 B ls) (hn : ls.length ≤ 1000000) : FSpec Try.prog 38 #[.slice A ls.length c1, .slice B ls.length c2] ((sep (Own 3 1 (.slice A ls.length c1) ls.length (ls.flatMap encZ)) (R0))) (fun _ : Unit => True) (fun _ => .bool true) (fun _ => (sep (Own 3 1 (.slice A ls.length c1) ls.length (ls.flatMap encZ)) (R0))) := by
  refine FSpec.enter' Try.func38 rfl Try.ntmps38 rfl fun σ F => ?_
  refine J_eq _ (sep_assoc _ _ _) ?_
  refine J_know (fun w hs => own_nonnil hs) fun hA => ?_
  refine J_seq ?_
  refine J_region ?_
  refine L_v (opv_assign rfl) rfl ?_
  refine L_nil ?_
  refine K_then ?_
  refine J_seq ?_
  refine J_seq ?_
  refine J_region ?_
  refine L_v (opv_move rfl) rfl ?_
  first
    | refine L_v (opv_lenL rfl) rfl ?_
    | refine L_v (opv_lenS rfl) rfl ?_
  refine L_v (opv_move rfl) rfl ?_
  first
    | refine L_v (opv_lenL rfl) rfl ?_
    | refine L_v (opv_lenS rfl) rfl ?_
  refine L_v ((opv_neq rfl rfl).bool_f (fun n => n rfl)) rfl ?_
  refine L_nil ?_
  refine K_then ?_
  refine J_cond_false rfl ?_
  refine J_skip ?_
  refine K_then ?_
  refine J_seq ?_
  refine J_seq ?_
  refine J_region ?_
  refine L_v (opv_assign rfl) rfl ?_
  refine L_nil ?_
  refine K_then ?_
  refine J_block ?_
  refine J_loop (X := Nat) (fun k => [(0, .slice A ls.length c1), (1, .slice B ls.length c2), (5, .int .i64 k)]) (fun k => (sep (Own 3 1 (.slice A ls.length c1) ls.length (ls.flatMap encZ)) (sep (R0) (F)))) (fun k => k ≤ ls.length) (fun k => ls.length - k) (0) (Nat.zero_le _) ⟨rfl, rfl, rfl, trivial⟩ (Ent.refl _) (fun k hk => ?_)
  refine J_seq ?_
  refine J_seq ?_
  refine J_region ?_
  refine L_v (opv_move rfl) rfl ?_
  refine L_v (opv_move rfl) rfl ?_
  first
    | refine L_v (opv_lenL rfl) rfl ?_
    | refine L_v (opv_lenS rfl) rfl ?_
  refine L_v (opv_lss rfl rfl) rfl ?_
  refine L_nil ?_
  refine K_then ?_
  refine J_cond rfl (fun h1 => ?_) (fun h1 => ?_)
  · have hkl : k < ls.length := by omega
    obtain ⟨v, hv⟩ : ∃ v, ls[k]? = some v := ⟨_, List.getElem?_eq_getElem hkl⟩
    obtain ⟨b, o, rfl⟩ : ∃ b o, A = some (ad b o) := by rcases hA with ⟨_, _, h, _⟩ | h; omega; exact h
    obtain ⟨b2, o2, rfl⟩ := hR.nonnil k hkl
    refine J_skip ?_
    refine K_then ?_
    refine J_seq ?_
    refine J_block ?_
    refine J_seq ?_
    refine J_quiet Try.mixed (by kernel_rfl) ?_
    refine Q_v (opv_move rfl) rfl ?_
    refine Q_v (opv_move rfl) rfl ?_
    first
      | refine Q_v (opv_indexAddr rfl rfl (by omega)) rfl ?_
      | refine Q_v (opv_indexAddrA rfl rfl (by omega)) rfl ?_
    refine Q_v (opv_load rfl (Rd.of_take (S := Own 3 1 (.slice (some (ad b o)) ls.length c1) ls.length (ls.flatMap encZ)) ((RdS.own (m := 1) (e := 3) (c := c1) (xs := ls) encZ_len (.inr ⟨b, o, rfl⟩)).rd b o rfl k v 0 _ hv rfl))) rfl ?_
    refine Q_v (opv_move rfl) rfl ?_
    refine Q_v (opv_move rfl) rfl ?_
    first
      | refine Q_v (opv_indexAddr rfl rfl (by omega)) rfl ?_
      | refine Q_v (opv_indexAddrA rfl rfl (by omega)) rfl ?_
    refine Q_v (opv_load rfl (Rd.of_take (S := R0) (hR.rd b2 o2 rfl k v 0 _ hv rfl))) rfl ?_
    refine Q_v ((opv_neq rfl rfl).bool_f (fun n => n rfl)) rfl ?_
    refine QL_nil ?_
    refine K_then ?_
    refine J_cond_false rfl ?_
    refine J_skip ?_
    refine K_block ?_
    refine K_then ?_
    refine J_region ?_
    refine L_v (opv_move rfl) rfl ?_
    first
      | refine L_v (opv_add64 rfl rfl (by omega)) rfl ?_
      | refine L_v (opv_addS rfl rfl (by omega)) rfl ?_
      | refine L_v (opv_add rfl rfl) rfl ?_
    refine L_v (opv_assign rfl) rfl ?_
    refine L_nil ?_
    exact K_loop (k + 1) (by omega) (by omega) ⟨rfl, rfl, rfl, trivial⟩ (Ent.refl _)
  · refine J_exit ?_
    refine K_then_exit ?_
    refine K_then_exit ?_
    refine K_block_here ?_
    refine K_then ?_
    refine J_seq ?_
    refine J_region ?_
    refine L_v (opv_assign rfl) rfl ?_
    refine L_nil ?_
    refine K_then ?_
    refine J_ret ?_
    exact K_ret1 rfl rfl () trivial (rfl) Ent.take

end Go.Proofs.Ytdmlcnecildliaa
