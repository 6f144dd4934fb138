/- Contracts of functions of the translation, each proved by a walk over its code; they are used by the texts that import this one. -/
import Derived.Test.YtdmlcnecildliaaBc
import Derived.Test.YtdmlcnecildliaaH
namespace Go.Proofs.Ytdmlcnecildliaa
open Go.SLA
set_option maxRecDepth 100000
set_option linter.unusedVariables false
set_option linter.unusedSimpArgs false
attribute [local irreducible] J L K QL Rg FSpec OpV OpX Rd Back

/-- What one number more makes of a writer. -/
def putS (s : ByteArray) (bad : Bool) (m : Int) (c : Nat) : ByteArray × Bool := if bad = true then (s, true) else if fitB m (8 * c) then (s ++ be m.toNat c, false) else (s, true)
theorem put_any (p : Nat) (s : ByteArray) (bad : Bool) (m : Int) (c : Nat) (hc : 1 ≤ c ∧ c ≤ 4) (hm : -9223372036854775808 ≤ m ∧ m ≤ 9223372036854775807) (hs : s.size ≤ 1099511627776) : FSpec Try.prog 54 #[.pointer (some (ad p 0)), .int .i64 m, .int .i64 (8 * c : Nat)] (WrP p s bad) (fun _ : Unit => True) (fun _ => .tuple #[]) (fun _ => WrP p (putS s bad m c).1 (putS s bad m c).2) := by
  unfold putS
  cases bad with
  | true =>
    rw [if_pos rfl]
    exact put_bad p s m _
  | false =>
    rw [if_neg (by decide)]
    by_cases h : fitB m (8 * c)
    · rw [if_pos h]
      obtain ⟨k, rfl⟩ : ∃ k : Nat, m = k := ⟨m.toNat, by have := h.1; omega⟩
      exact put_fit p s k c hc h hs
    · rw [if_neg h]
      exact put_unfit p s m c hc hm h

theorem U8_nil (m : Int) : FSpec Try.prog 40 #[.pointer none, .int .i64 m] (emp) (fun _ : Unit => True) (fun _ => .tuple #[]) (fun _ => emp) := by
  refine FSpec.enter' Try.func40 rfl Try.ntmps40 rfl fun σ F => ?_
  refine J_region ?_
  refine L_v (opv_move rfl) rfl ?_
  refine L_v (opv_move rfl) rfl ?_
  refine L_x rfl (opx_call0 (put_nil m _) rfl rfl rfl) (fun _ _ => ?_)
  refine L_emp ?_
  refine L_nil ?_
  exact K_end0 rfl () trivial rfl (Ent.refl _)

theorem U8_spec (p : Nat) (s : ByteArray) (bad : Bool) (m : Int) (hm : -9223372036854775808 ≤ m ∧ m ≤ 9223372036854775807) (hs : s.size ≤ 1099511627776) : FSpec Try.prog 40 #[.pointer (some (ad p 0)), .int .i64 m] (WrP p s bad) (fun _ : Unit => True) (fun _ => .tuple #[]) (fun _ => WrP p (putS s bad m 1).1 (putS s bad m 1).2) := by
  refine FSpec.enter' Try.func40 rfl Try.ntmps40 rfl fun σ F => ?_
  refine J_region ?_
  refine L_v (opv_move rfl) rfl ?_
  refine L_v (opv_move rfl) rfl ?_
  refine L_x rfl (opx_call0 (put_any p s bad m 1 (by decide) hm hs) rfl rfl rfl) (fun _ _ => ?_)
  refine L_nil ?_
  exact K_end0 rfl () trivial rfl Ent.take

theorem U16_nil (m : Int) : FSpec Try.prog 41 #[.pointer none, .int .i64 m] (emp) (fun _ : Unit => True) (fun _ => .tuple #[]) (fun _ => emp) := by
  refine FSpec.enter' Try.func41 rfl Try.ntmps41 rfl fun σ F => ?_
  refine J_region ?_
  refine L_v (opv_move rfl) rfl ?_
  refine L_v (opv_move rfl) rfl ?_
  refine L_x rfl (opx_call0 (put_nil m _) rfl rfl rfl) (fun _ _ => ?_)
  refine L_emp ?_
  refine L_nil ?_
  exact K_end0 rfl () trivial rfl (Ent.refl _)

theorem U16_spec (p : Nat) (s : ByteArray) (bad : Bool) (m : Int) (hm : -9223372036854775808 ≤ m ∧ m ≤ 9223372036854775807) (hs : s.size ≤ 1099511627776) : FSpec Try.prog 41 #[.pointer (some (ad p 0)), .int .i64 m] (WrP p s bad) (fun _ : Unit => True) (fun _ => .tuple #[]) (fun _ => WrP p (putS s bad m 2).1 (putS s bad m 2).2) := by
  refine FSpec.enter' Try.func41 rfl Try.ntmps41 rfl fun σ F => ?_
  refine J_region ?_
  refine L_v (opv_move rfl) rfl ?_
  refine L_v (opv_move rfl) rfl ?_
  refine L_x rfl (opx_call0 (put_any p s bad m 2 (by decide) hm hs) rfl rfl rfl) (fun _ _ => ?_)
  refine L_nil ?_
  exact K_end0 rfl () trivial rfl Ent.take

theorem U32_nil (m : Int) : FSpec Try.prog 42 #[.pointer none, .int .i64 m] (emp) (fun _ : Unit => True) (fun _ => .tuple #[]) (fun _ => emp) := by
  refine FSpec.enter' Try.func42 rfl Try.ntmps42 rfl fun σ F => ?_
  refine J_region ?_
  refine L_v (opv_move rfl) rfl ?_
  refine L_v (opv_move rfl) rfl ?_
  refine L_x rfl (opx_call0 (put_nil m _) rfl rfl rfl) (fun _ _ => ?_)
  refine L_emp ?_
  refine L_nil ?_
  exact K_end0 rfl () trivial rfl (Ent.refl _)

theorem U32_spec (p : Nat) (s : ByteArray) (bad : Bool) (m : Int) (hm : -9223372036854775808 ≤ m ∧ m ≤ 9223372036854775807) (hs : s.size ≤ 1099511627776) : FSpec Try.prog 42 #[.pointer (some (ad p 0)), .int .i64 m] (WrP p s bad) (fun _ : Unit => True) (fun _ => .tuple #[]) (fun _ => WrP p (putS s bad m 4).1 (putS s bad m 4).2) := by
  refine FSpec.enter' Try.func42 rfl Try.ntmps42 rfl fun σ F => ?_
  refine J_region ?_
  refine L_v (opv_move rfl) rfl ?_
  refine L_v (opv_move rfl) rfl ?_
  refine L_x rfl (opx_call0 (put_any p s bad m 4 (by decide) hm hs) rfl rfl rfl) (fun _ _ => ?_)
  refine L_nil ?_
  exact K_end0 rfl () trivial rfl Ent.take

theorem Bytes_nil  : FSpec Try.prog 25 #[.pointer none] (emp) (fun _ : Unit => True) (fun _ => .tuple #[.string ByteArray.empty, .int .i64 2]) (fun _ => emp) := by
  refine FSpec.enter' Try.func25 rfl Try.ntmps25 rfl fun σ F => ?_
  refine J_seq ?_
  refine J_region ?_
  refine L_v (opv_assign rfl) rfl ?_
  refine L_v (opv_assign rfl) rfl ?_
  refine L_nil ?_
  refine K_then ?_
  refine J_seq ?_
  refine J_block ?_
  refine J_seq ?_
  refine J_region ?_
  refine L_v (opv_move rfl) rfl ?_
  first
    | refine L_v (opv_eql rfl rfl) rfl ?_
    | refine L_v (opv_eqlS rfl rfl) rfl ?_
    | refine L_v (opv_eqlNil rfl rfl) rfl ?_
    | refine L_v (opv_eqlB rfl rfl) rfl ?_
  refine L_v (opv_assign rfl) rfl ?_
  refine L_nil ?_
  refine K_then ?_
  refine J_cond_true rfl ?_
  refine J_seq ?_
  refine J_region ?_
  refine L_v (opv_assign rfl) rfl ?_
  refine L_v (opv_assign rfl) rfl ?_
  refine L_nil ?_
  refine K_then ?_
  refine J_ret ?_
  refine K_block_ret ?_
  refine K_then_ret ?_
  exact K_ret2 rfl rfl rfl () trivial rfl (Ent.refl _)

theorem Bytes_bad (p : Nat) (s : ByteArray) : FSpec Try.prog 25 #[.pointer (some (ad p 0))] (WrP p s true) (fun _ : Unit => True) (fun _ => .tuple #[.string ByteArray.empty, .int .i64 1]) (fun _ => WrP p s true) := by
  refine FSpec.enter' Try.func25 rfl Try.ntmps25 rfl fun σ F => ?_
  refine J_ex fun x => ?_
  refine J_eq _ (sep_assoc _ _ _) ?_
  refine J_seq ?_
  refine J_region ?_
  refine L_v (opv_assign rfl) rfl ?_
  refine L_v (opv_assign rfl) rfl ?_
  refine L_nil ?_
  refine K_then ?_
  refine J_seq ?_
  refine J_block ?_
  refine J_seq ?_
  refine J_region ?_
  refine L_v (opv_move rfl) rfl ?_
  first
    | refine L_v (opv_eql rfl rfl) rfl ?_
    | refine L_v (opv_eqlS rfl rfl) rfl ?_
    | refine L_v (opv_eqlNil rfl rfl) rfl ?_
    | refine L_v (opv_eqlB rfl rfl) rfl ?_
  refine L_v (opv_assign rfl) rfl ?_
  refine L_nil ?_
  refine K_then ?_
  refine J_cond_false rfl ?_
  refine J_seq ?_
  refine J_region ?_
  refine L_v (opv_move rfl) rfl ?_
  refine L_v (opv_nilCheck rfl) rfl ?_
  first
    | refine L_v (opv_fieldAddr0 rfl) rfl ?_
    | refine L_v (opv_fieldAddr rfl) rfl ?_
  refine L_v (opv_load rfl (Rd.look rfl)) rfl ?_
  refine L_v (opv_assign rfl) rfl ?_
  refine L_nil ?_
  refine K_then ?_
  refine J_cond_true rfl ?_
  refine J_seq ?_
  refine J_region ?_
  refine L_v (opv_assign rfl) rfl ?_
  refine L_v (opv_assign rfl) rfl ?_
  refine L_nil ?_
  refine K_then ?_
  refine J_ret ?_
  refine K_block_ret ?_
  refine K_then_ret ?_
  exact K_ret2 rfl rfl rfl () trivial rfl (WrP.fold x)

theorem Bytes_ok (p : Nat) (s : ByteArray) : FSpec Try.prog 25 #[.pointer (some (ad p 0))] (WrP p s false) (fun _ : Unit => True) (fun _ => .tuple #[.string s, .int .i64 0]) (fun _ => WrP p s false) := by
  refine FSpec.enter' Try.func25 rfl Try.ntmps25 rfl fun σ F => ?_
  refine J_ex fun x => ?_
  refine J_eq _ (sep_assoc _ _ _) ?_
  refine J_seq ?_
  refine J_region ?_
  refine L_v (opv_assign rfl) rfl ?_
  refine L_v (opv_assign rfl) rfl ?_
  refine L_nil ?_
  refine K_then ?_
  refine J_seq ?_
  refine J_block ?_
  refine J_seq ?_
  refine J_region ?_
  refine L_v (opv_move rfl) rfl ?_
  first
    | refine L_v (opv_eql rfl rfl) rfl ?_
    | refine L_v (opv_eqlS rfl rfl) rfl ?_
    | refine L_v (opv_eqlNil rfl rfl) rfl ?_
    | refine L_v (opv_eqlB rfl rfl) rfl ?_
  refine L_v (opv_assign rfl) rfl ?_
  refine L_nil ?_
  refine K_then ?_
  refine J_cond_false rfl ?_
  refine J_seq ?_
  refine J_region ?_
  refine L_v (opv_move rfl) rfl ?_
  refine L_v (opv_nilCheck rfl) rfl ?_
  first
    | refine L_v (opv_fieldAddr0 rfl) rfl ?_
    | refine L_v (opv_fieldAddr rfl) rfl ?_
  refine L_v (opv_load rfl (Rd.look rfl)) rfl ?_
  refine L_v (opv_assign rfl) rfl ?_
  refine L_nil ?_
  refine K_then ?_
  refine J_cond_false rfl ?_
  refine J_skip ?_
  refine K_block ?_
  refine K_then ?_
  refine J_seq ?_
  refine J_region ?_
  refine L_v (opv_move rfl) rfl ?_
  refine L_v (opv_nilCheck rfl) rfl ?_
  first
    | refine L_v (opv_fieldAddr0 rfl) rfl ?_
    | refine L_v (opv_fieldAddr rfl) rfl ?_
  refine L_v (opv_load rfl (Rd.look rfl)) rfl ?_
  refine L_v (opv_b2sO (s := s) rfl rfl) rfl ?_
  refine L_v (opv_assign rfl) rfl ?_
  refine L_v (opv_assign rfl) rfl ?_
  refine L_nil ?_
  refine K_then ?_
  refine J_ret ?_
  exact K_ret2 rfl rfl rfl () trivial rfl (WrP.fold x)


def encZ (v : Int) : List Value := [.int .i64 v]
/-- What widths come to; none: they may not be. -/
def sumGo : Int → List Int → Option Int
  | n, [] => some n
  | n, x :: l => if x < 1 ∨ 32 < x ∨ 32 < n then none else sumGo (n + x) l
def sumW (l : List Int) : Int := match sumGo 0 l with
  | some n => if n = 8 ∨ n = 16 ∨ n = 32 then n else 0
  | none => 0
theorem sumGo_drop {l : List Int} {n x : Int} {k : Nat} (hx : l[k]? = some x) : sumGo n (l.drop k) = if x < 1 ∨ 32 < x ∨ 32 < n then none else sumGo (n + x) (l.drop (k + 1)) := by
  have hk : k < l.length := by
    rcases Nat.lt_or_ge k l.length with h | h
    · exact h
    · rw [List.getElem?_eq_none h] at hx; cases hx
  rw [List.drop_eq_getElem_cons hk]
  rw [List.getElem?_eq_getElem hk] at hx
  simp only [Option.some.injEq] at hx
  rw [hx, sumGo]

theorem rvz {a b : Int} (h : b = a) : Value.int .i64 a = .int .i64 b := by rw [h]
theorem sum_spec (R0 : HProp) (A : Option Addr) (c : Nat) (ws : List Int) (hR : RdS R0 encZ 1 A ws) (hn : ws.length ≤ 9223372036854775807) (hw : ∀ v ∈ ws, -9223372036854775808 ≤ v ∧ v ≤ 9223372036854775807) : FSpec Try.prog 53 #[.slice A ws.length c] (R0) (fun _ : Unit => True) (fun _ => .int .i64 (sumW ws)) (fun _ => R0) := by
  refine FSpec.enter' Try.func53 rfl Try.ntmps53 rfl fun σ F => ?_
  refine J_seq ?_
  refine J_region ?_
  refine L_v (opv_assign rfl) rfl ?_
  refine L_nil ?_
  refine K_then ?_
  refine J_seq ?_
  refine J_region ?_
  refine L_v (opv_assign rfl) rfl ?_
  refine L_nil ?_
  refine K_then ?_
  refine J_seq ?_
  refine J_seq ?_
  refine J_region ?_
  refine L_v (opv_move rfl) rfl ?_
  first
    | refine L_v (opv_lenL rfl) rfl ?_
    | refine L_v (opv_lenS rfl) rfl ?_
  refine L_v (opv_move rfl) rfl ?_
  refine L_nil ?_
  refine K_then ?_
  refine J_block ?_
  refine J_loop (X := Nat × Int) (fun y => [(3, .int .i64 y.2), (6, .slice A ws.length c), (7, .int .i64 ws.length), (8, .int .i64 y.1)]) (fun y => (sep (R0) (F))) (fun y => (y.1 ≤ ws.length ∧ -64 ≤ y.2 ∧ y.2 ≤ 64) ∧ sumGo 0 ws = sumGo y.2 (ws.drop y.1)) (fun y => ws.length - y.1) ((0, 0)) ⟨⟨Nat.zero_le _, by decide, by decide⟩, rfl⟩ ⟨rfl, rfl, rfl, rfl, trivial⟩ (Ent.refl _) (fun y hy => ?_)
  obtain ⟨⟨hk, hb1, hb2⟩, hy⟩ := hy
  refine J_seq ?_
  refine J_region ?_
  refine L_v (opv_lss rfl rfl) rfl ?_
  refine L_nil ?_
  refine K_then ?_
  refine J_seq ?_
  refine J_cond rfl (fun h1 => ?_) (fun h1 => ?_)
  · have hkl : y.1 < ws.length := by omega
    obtain ⟨v, hv⟩ : ∃ v, ws[y.1]? = some v := ⟨_, List.getElem?_eq_getElem hkl⟩
    obtain ⟨b, o, rfl⟩ := hR.nonnil y.1 hkl
    have hd := sumGo_drop (n := y.2) hv
    refine J_skip ?_
    refine K_then ?_
    refine J_seq ?_
    refine J_block ?_
    refine J_seq ?_
    refine J_region ?_
    first
      | refine L_v (opv_indexAddr rfl rfl (by omega)) rfl ?_
      | refine L_v (opv_indexAddrA rfl rfl (by omega)) rfl ?_
    refine L_v (opv_load rfl (Rd.of_take (S := R0) (hR.rd b o rfl y.1 v 0 _ hv rfl))) rfl ?_
    refine L_v (opv_assign rfl) rfl ?_
    refine L_nil ?_
    refine K_then ?_
    refine J_seq ?_
    refine J_seq ?_
    refine J_region ?_
    refine L_v (opv_move rfl) rfl ?_
    refine L_v (opv_lss rfl rfl) rfl ?_
    refine L_v (opv_move rfl) rfl ?_
    refine L_gf rfl rfl (fun h2 => ?_) (fun h2 => ?_) (fun _ h => by cases h; rfl)
    · refine L_v (opv_move rfl) rfl ?_
      refine L_gf_on h2 rfl rfl ?_
      refine L_v (opv_gtr rfl rfl) rfl ?_
      refine L_v (opv_pick_f rfl h2 rfl) rfl ?_
      refine L_v (opv_move rfl) rfl ?_
      refine L_gf rfl rfl (fun h3 => ?_) (fun h3 => ?_) (fun _ h => by cases h; rfl)
      · refine L_v (opv_move rfl) rfl ?_
        refine L_gf_on h3 rfl rfl ?_
        refine L_v (opv_gtr rfl rfl) rfl ?_
        refine L_v (opv_pick_f rfl h3 rfl) rfl ?_
        refine L_nil ?_
        refine K_then ?_
        refine J_cond rfl (fun h4 => ?_) (fun h4 => ?_)
        · refine J_seq ?_
          refine J_region ?_
          refine L_v (opv_assign rfl) rfl ?_
          refine L_nil ?_
          refine K_then ?_
          refine J_ret ?_
          refine K_then_ret ?_
          refine K_block_ret ?_
          refine K_then_ret ?_
          refine K_then_ret ?_
          refine K_block_ret ?_
          refine K_then_ret ?_
          rw [if_pos (by omega)] at hd
          exact K_ret1 rfl rfl () trivial (rvz (by rw [sumW, hy, hd])) (Ent.refl _)
        · refine J_skip ?_
          refine K_then ?_
          refine J_region ?_
          refine L_v (opv_move rfl) rfl ?_
          refine L_v (opv_move rfl) rfl ?_
          first
            | refine L_v (opv_add64 rfl rfl (by omega)) rfl ?_
            | refine L_v (opv_addS rfl rfl (by omega)) rfl ?_
            | refine L_v (opv_add rfl rfl) rfl ?_
          refine L_v (opv_assign rfl) rfl ?_
          refine L_nil ?_
          refine K_block ?_
          refine K_then ?_
          refine J_region ?_
          first
            | refine L_v (opv_add64 rfl rfl (by omega)) rfl ?_
            | refine L_v (opv_addS rfl rfl (by omega)) rfl ?_
            | refine L_v (opv_add rfl rfl) rfl ?_
          refine L_v (opv_move rfl) rfl ?_
          refine L_nil ?_
          rw [if_neg (by omega)] at hd
          exact K_loop ((y.1 + 1, y.2 + v)) ⟨⟨by show y.1 + 1 ≤ _; omega, by show -64 ≤ y.2 + v; omega, by show y.2 + v ≤ 64; omega⟩, by rw [hy, hd]⟩ (by show _ - (y.1 + 1) < _; omega) ⟨rfl, rfl, rfl, rfl, trivial⟩ (Ent.refl _)
      · refine L_gf_off h3 rfl rfl ?_ (fun _ h => by cases h; rfl)
        refine L_v (opv_pick_t rfl h3 rfl) rfl ?_
        refine L_nil ?_
        refine K_then ?_
        refine J_cond_true rfl ?_
        refine J_seq ?_
        refine J_region ?_
        refine L_v (opv_assign rfl) rfl ?_
        refine L_nil ?_
        refine K_then ?_
        refine J_ret ?_
        refine K_then_ret ?_
        refine K_block_ret ?_
        refine K_then_ret ?_
        refine K_then_ret ?_
        refine K_block_ret ?_
        refine K_then_ret ?_
        rw [if_pos (by omega)] at hd
        exact K_ret1 rfl rfl () trivial (rvz (by rw [sumW, hy, hd])) (Ent.refl _)
    · refine L_gf_off h2 rfl rfl ?_ (fun _ h => by cases h; rfl)
      refine L_v (opv_pick_t rfl h2 rfl) rfl ?_
      refine L_v (opv_move rfl) rfl ?_
      refine L_gskip rfl rfl rfl ?_ (fun _ h => by cases h; rfl)
      refine L_gskip rfl rfl rfl ?_ (fun _ h => by cases h; rfl)
      first
        | refine L_v (opv_pick_tt rfl rfl) rfl ?_
        | refine L_v (opv_pick_ff rfl rfl) rfl ?_
        | refine L_v (opv_pick rfl rfl rfl) rfl ?_
      refine L_nil ?_
      refine K_then ?_
      refine J_cond_true rfl ?_
      refine J_seq ?_
      refine J_region ?_
      refine L_v (opv_assign rfl) rfl ?_
      refine L_nil ?_
      refine K_then ?_
      refine J_ret ?_
      refine K_then_ret ?_
      refine K_block_ret ?_
      refine K_then_ret ?_
      refine K_then_ret ?_
      refine K_block_ret ?_
      refine K_then_ret ?_
      rw [if_pos (by omega)] at hd
      exact K_ret1 rfl rfl () trivial (rvz (by rw [sumW, hy, hd])) (Ent.refl _)
  · refine J_exit ?_
    refine K_then_exit ?_
    refine K_then_exit ?_
    refine K_block_here ?_
    refine K_then ?_
    refine J_seq ?_
    refine J_seq ?_
    refine J_region ?_
    refine L_v (opv_move rfl) rfl ?_
    refine L_nil ?_
    refine K_then ?_
    refine J_block ?_
    refine J_seq ?_
    refine J_seq ?_
    refine J_region ?_
    first
      | refine L_v (opv_eql rfl rfl) rfl ?_
      | refine L_v (opv_eqlS rfl rfl) rfl ?_
      | refine L_v (opv_eqlNil rfl rfl) rfl ?_
      | refine L_v (opv_eqlB rfl rfl) rfl ?_
    refine L_v (opv_assign rfl) rfl ?_
    refine L_nil ?_
    refine K_then ?_
    refine J_cond rfl (fun h5 => ?_) (fun h5 => ?_)
    · refine J_skip ?_
      refine K_then ?_
      refine J_cond rfl (fun h6 => ?_) (fun h6 => ?_)
      · refine J_seq ?_
        refine J_region ?_
        refine L_v (opv_move rfl) rfl ?_
        refine L_v (opv_assign rfl) rfl ?_
        refine L_nil ?_
        refine K_then ?_
        refine J_ret ?_
        refine K_block_ret ?_
        refine K_then_ret ?_
        have he : y.1 = ws.length := by omega
        rw [he, List.drop_length] at hy
        first | (exfalso; omega) | exact K_ret1 rfl rfl () trivial (rvz (by rw [sumW, hy, sumGo]; dsimp only; first | rw [if_pos (by omega)] | rw [if_neg (by omega)])) (Ent.refl _)
      · refine J_skip ?_
        refine K_block ?_
        refine K_then ?_
        refine J_seq ?_
        refine J_region ?_
        refine L_v (opv_assign rfl) rfl ?_
        refine L_nil ?_
        refine K_then ?_
        refine J_ret ?_
        have he : y.1 = ws.length := by omega
        rw [he, List.drop_length] at hy
        first | (exfalso; omega) | exact K_ret1 rfl rfl () trivial (rvz (by rw [sumW, hy, sumGo]; dsimp only; first | rw [if_pos (by omega)] | rw [if_neg (by omega)])) (Ent.refl _)
    · refine J_seq ?_
      refine J_region ?_
      first
        | refine L_v (opv_eql rfl rfl) rfl ?_
        | refine L_v (opv_eqlS rfl rfl) rfl ?_
        | refine L_v (opv_eqlNil rfl rfl) rfl ?_
        | refine L_v (opv_eqlB rfl rfl) rfl ?_
      refine L_v (opv_assign rfl) rfl ?_
      refine L_nil ?_
      refine K_then ?_
      refine J_cond rfl (fun h7 => ?_) (fun h7 => ?_)
      · refine J_skip ?_
        refine K_then ?_
        refine J_cond rfl (fun h8 => ?_) (fun h8 => ?_)
        · refine J_seq ?_
          refine J_region ?_
          refine L_v (opv_move rfl) rfl ?_
          refine L_v (opv_assign rfl) rfl ?_
          refine L_nil ?_
          refine K_then ?_
          refine J_ret ?_
          refine K_block_ret ?_
          refine K_then_ret ?_
          have he : y.1 = ws.length := by omega
          rw [he, List.drop_length] at hy
          first | (exfalso; omega) | exact K_ret1 rfl rfl () trivial (rvz (by rw [sumW, hy, sumGo]; dsimp only; first | rw [if_pos (by omega)] | rw [if_neg (by omega)])) (Ent.refl _)
        · refine J_skip ?_
          refine K_block ?_
          refine K_then ?_
          refine J_seq ?_
          refine J_region ?_
          refine L_v (opv_assign rfl) rfl ?_
          refine L_nil ?_
          refine K_then ?_
          refine J_ret ?_
          have he : y.1 = ws.length := by omega
          rw [he, List.drop_length] at hy
          first | (exfalso; omega) | exact K_ret1 rfl rfl () trivial (rvz (by rw [sumW, hy, sumGo]; dsimp only; first | rw [if_pos (by omega)] | rw [if_neg (by omega)])) (Ent.refl _)
      · refine J_region ?_
        first
          | refine L_v (opv_eql rfl rfl) rfl ?_
          | refine L_v (opv_eqlS rfl rfl) rfl ?_
          | refine L_v (opv_eqlNil rfl rfl) rfl ?_
          | refine L_v (opv_eqlB rfl rfl) rfl ?_
        refine L_v (opv_assign rfl) rfl ?_
        refine L_nil ?_
        refine K_then ?_
        refine J_cond rfl (fun h9 => ?_) (fun h9 => ?_)
        · refine J_seq ?_
          refine J_region ?_
          refine L_v (opv_move rfl) rfl ?_
          refine L_v (opv_assign rfl) rfl ?_
          refine L_nil ?_
          refine K_then ?_
          refine J_ret ?_
          refine K_block_ret ?_
          refine K_then_ret ?_
          have he : y.1 = ws.length := by omega
          rw [he, List.drop_length] at hy
          first | (exfalso; omega) | exact K_ret1 rfl rfl () trivial (rvz (by rw [sumW, hy, sumGo]; dsimp only; first | rw [if_pos (by omega)] | rw [if_neg (by omega)])) (Ent.refl _)
        · refine J_skip ?_
          refine K_block ?_
          refine K_then ?_
          refine J_seq ?_
          refine J_region ?_
          refine L_v (opv_assign rfl) rfl ?_
          refine L_nil ?_
          refine K_then ?_
          refine J_ret ?_
          have he : y.1 = ws.length := by omega
          rw [he, List.drop_length] at hy
          first | (exfalso; omega) | exact K_ret1 rfl rfl () trivial (rvz (by rw [sumW, hy, sumGo]; dsimp only; first | rw [if_pos (by omega)] | rw [if_neg (by omega)])) (Ent.refl _)

end Go.Proofs.Ytdmlcnecildliaa
