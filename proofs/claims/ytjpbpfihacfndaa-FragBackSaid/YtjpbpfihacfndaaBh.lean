/- Contracts of functions of the translation, each proved by a walk over its code; they are used by the texts that import this one. -/
import Derived.Test.YtjpbpfihacfndaaBe
import Derived.Test.YtjpbpfihacfndaaH
namespace Go.Proofs.Ytjpbpfihacfndaa
open Go.SLA
set_option maxRecDepth 100000
set_option linter.unusedVariables false
set_option linter.unusedSimpArgs false
attribute [local irreducible] J L K QL Rg FSpec OpV OpX Rd Back

theorem WrP_new {p : Nat} {F : HProp} : Ent (sep (cel p [.slice none 0 0, .bool false] 113) (F)) (sep (WrP p (bytesL []) false) (F)) :=
  Ent.trans (Ent.frame_left (Ent.trans (Ent.of (emp_sep _).symm) ((Own.nil 5 1).frame F)) _) (WrP.fold (s := bytesL []) (none, 0))
theorem RdS.lit {S R : HProp} {α : Type} {en : α → List Value} {m b : Nat} {te : TypeId} {xs : List α} {cells : List Value} [h : Look S b cells te R] (hc : cells = xs.flatMap en) (hm : ∀ x, (en x).length = m) : RdS S en m (some (ad b 0)) xs := by
  subst hc
  refine ⟨fun _ _ => ⟨b, 0, rfl⟩, fun b' o' e i x j u hi hj => ?_⟩
  simp only [Option.some.injEq, Addr.mk.injEq] at e
  obtain ⟨rfl, rfl, _⟩ := e
  have hjm : j < m := by
    rcases Nat.lt_or_ge j (en x).length with h | h
    · rw [← hm x]; exact h
    · rw [List.getElem?_eq_none h] at hj; cases hj
  refine Rd.look (l := xs.flatMap en) ?_
  rw [Nat.zero_add, flat_get hm xs i j x hi hjm, hj]
theorem encZ_len (x : Int) : (encZ x).length = 1 := rfl

theorem WText_nil (t : ByteArray) : FSpec Try.prog 64 #[.pointer none, .string t] (emp) (fun _ : Unit => True) (fun _ => .tuple #[]) (fun _ => emp) := by
  refine FSpec.enter' Try.func64 rfl Try.ntmps64 rfl fun σ F => ?_
  refine J_seq ?_
  refine J_region ?_
  refine L_v (opv_move rfl) rfl ?_
  refine L_v (opv_neqNil rfl rfl) rfl ?_
  refine L_v (opv_move rfl) rfl ?_
  refine L_gskip rfl rfl rfl ?_ (fun _ h => by cases h; rfl)
  refine L_gskip rfl rfl rfl ?_ (fun _ h => by cases h; rfl)
  refine L_gskip rfl rfl rfl ?_ (fun _ h => by cases h; rfl)
  refine L_gskip rfl rfl rfl ?_ (fun _ h => by cases h; rfl)
  refine L_gskip rfl rfl rfl ?_ (fun _ h => by cases h; rfl)
  first
    | refine L_v (opv_pick_tt rfl rfl) rfl ?_
    | refine L_v (opv_pick_ff rfl rfl) rfl ?_
    | refine L_v (opv_pick rfl rfl rfl) rfl ?_
  refine L_nil ?_
  refine K_then ?_
  refine J_cond_false rfl ?_
  refine J_skip ?_
  exact K_end0 rfl () trivial rfl (Ent.refl _)

theorem WText_bad (p : Nat) (s t : ByteArray) : FSpec Try.prog 64 #[.pointer (some (ad p 0)), .string t] (WrP p s true) (fun _ : Unit => True) (fun _ => .tuple #[]) (fun _ => WrP p s true) := by
  refine FSpec.enter' Try.func64 rfl Try.ntmps64 rfl fun σ F => ?_
  refine J_ex fun x => ?_
  refine J_eq _ (sep_assoc _ _ _) ?_
  refine J_seq ?_
  refine J_region ?_
  refine L_v (opv_move rfl) rfl ?_
  first
    | refine L_v (opv_neq rfl rfl) rfl ?_
    | refine L_v (opv_neqS rfl rfl) rfl ?_
    | refine L_v (opv_neqNil rfl rfl) rfl ?_
    | refine L_v (opv_neqB rfl rfl) rfl ?_
  refine L_v (opv_move rfl) rfl ?_
  refine L_gon rfl rfl rfl ?_
  refine L_v (opv_move rfl) rfl ?_
  refine L_gon rfl rfl rfl ?_
  refine L_v (opv_nilCheck rfl) rfl ?_
  refine L_gon rfl rfl rfl ?_
  first
    | refine L_v (opv_fieldAddr0 rfl) rfl ?_
    | refine L_v (opv_fieldAddr rfl) rfl ?_
  refine L_gon rfl rfl rfl ?_
  refine L_v (opv_load rfl (Rd.look rfl)) rfl ?_
  refine L_gon rfl rfl rfl ?_
  refine L_v (opv_not rfl) rfl ?_
  first
    | refine L_v (opv_pick_tt rfl rfl) rfl ?_
    | refine L_v (opv_pick_ff rfl rfl) rfl ?_
    | refine L_v (opv_pick rfl rfl rfl) rfl ?_
  refine L_nil ?_
  refine K_then ?_
  refine J_cond_false rfl ?_
  refine J_skip ?_
  exact K_end0 rfl () trivial rfl (WrP.fold x)

theorem WText_ok (p : Nat) (s t : ByteArray) (hs : s.size ≤ 1099511627776) (ht : t.size ≤ 1099511627776) : FSpec Try.prog 64 #[.pointer (some (ad p 0)), .string t] (WrP p s false) (fun _ : Unit => True) (fun _ => .tuple #[]) (fun _ => WrP p (s ++ t) false) := by
  refine FSpec.enter' Try.func64 rfl Try.ntmps64 rfl fun σ F => ?_
  refine J_ex fun x => ?_
  refine J_eq _ (sep_assoc _ _ _) ?_
  refine J_seq ?_
  refine J_region ?_
  refine L_v (opv_move rfl) rfl ?_
  first
    | refine L_v (opv_neq rfl rfl) rfl ?_
    | refine L_v (opv_neqS rfl rfl) rfl ?_
    | refine L_v (opv_neqNil rfl rfl) rfl ?_
    | refine L_v (opv_neqB rfl rfl) rfl ?_
  refine L_v (opv_move rfl) rfl ?_
  refine L_gon rfl rfl rfl ?_
  refine L_v (opv_move rfl) rfl ?_
  refine L_gon rfl rfl rfl ?_
  refine L_v (opv_nilCheck rfl) rfl ?_
  refine L_gon rfl rfl rfl ?_
  first
    | refine L_v (opv_fieldAddr0 rfl) rfl ?_
    | refine L_v (opv_fieldAddr rfl) rfl ?_
  refine L_gon rfl rfl rfl ?_
  refine L_v (opv_load rfl (Rd.look rfl)) rfl ?_
  refine L_gon rfl rfl rfl ?_
  refine L_v (opv_not rfl) rfl ?_
  first
    | refine L_v (opv_pick_tt rfl rfl) rfl ?_
    | refine L_v (opv_pick_ff rfl rfl) rfl ?_
    | refine L_v (opv_pick rfl rfl rfl) rfl ?_
  refine L_nil ?_
  refine K_then ?_
  refine J_cond_true rfl ?_
  refine J_region ?_
  refine L_v (opv_move rfl) rfl ?_
  refine L_v (opv_move rfl) rfl ?_
  refine L_v (opv_nilCheck rfl) rfl ?_
  first
    | refine L_v (opv_fieldAddr0 rfl) rfl ?_
    | refine L_v (opv_fieldAddr rfl) rfl ?_
  refine L_v (opv_load rfl (Rd.look rfl)) rfl ?_
  refine L_v (opv_move rfl) rfl ?_
  refine L_x rfl (opx_appendS rfl rfl rfl (by unfold maxLen; omega) (by omega) rfl) (fun y19 _ => ?_)
  refine L_v (opv_nilCheck rfl) rfl ?_
  first
    | refine L_v (opv_fieldAddr0 rfl) rfl ?_
    | refine L_v (opv_fieldAddr rfl) rfl ?_
  refine L_x rfl (opx_store rfl rfl rfl (by simp [Value.oneCell'])) (fun _ _ => ?_)
  refine L_nil ?_
  rw [← bts_append, ← ByteArray.size_append]
  exact K_end0 rfl () trivial rfl (Ent.trans Ent.take (WrP.fold y19))

theorem WText_big (p : Nat) (s t : ByteArray) (hs : s.size ≤ 4096) (ht : t.size ≤ 140737488351232) : FSpec Try.prog 64 #[.pointer (some (ad p 0)), .string t] (WrP p s false) (fun _ : Unit => True) (fun _ => .tuple #[]) (fun _ => WrP p (s ++ t) false) := by
  refine FSpec.enter' Try.func64 rfl Try.ntmps64 rfl fun σ F => ?_
  refine J_ex fun x => ?_
  refine J_eq _ (sep_assoc _ _ _) ?_
  refine J_seq ?_
  refine J_region ?_
  refine L_v (opv_move rfl) rfl ?_
  first
    | refine L_v (opv_neq rfl rfl) rfl ?_
    | refine L_v (opv_neqS rfl rfl) rfl ?_
    | refine L_v (opv_neqNil rfl rfl) rfl ?_
    | refine L_v (opv_neqB rfl rfl) rfl ?_
  refine L_v (opv_move rfl) rfl ?_
  refine L_gon rfl rfl rfl ?_
  refine L_v (opv_move rfl) rfl ?_
  refine L_gon rfl rfl rfl ?_
  refine L_v (opv_nilCheck rfl) rfl ?_
  refine L_gon rfl rfl rfl ?_
  first
    | refine L_v (opv_fieldAddr0 rfl) rfl ?_
    | refine L_v (opv_fieldAddr rfl) rfl ?_
  refine L_gon rfl rfl rfl ?_
  refine L_v (opv_load rfl (Rd.look rfl)) rfl ?_
  refine L_gon rfl rfl rfl ?_
  refine L_v (opv_not rfl) rfl ?_
  first
    | refine L_v (opv_pick_tt rfl rfl) rfl ?_
    | refine L_v (opv_pick_ff rfl rfl) rfl ?_
    | refine L_v (opv_pick rfl rfl rfl) rfl ?_
  refine L_nil ?_
  refine K_then ?_
  refine J_cond_true rfl ?_
  refine J_region ?_
  refine L_v (opv_move rfl) rfl ?_
  refine L_v (opv_move rfl) rfl ?_
  refine L_v (opv_nilCheck rfl) rfl ?_
  first
    | refine L_v (opv_fieldAddr0 rfl) rfl ?_
    | refine L_v (opv_fieldAddr rfl) rfl ?_
  refine L_v (opv_load rfl (Rd.look rfl)) rfl ?_
  refine L_v (opv_move rfl) rfl ?_
  refine L_x rfl (opx_appendS rfl rfl rfl (by unfold maxLen; omega) (by omega) rfl) (fun y19 _ => ?_)
  refine L_v (opv_nilCheck rfl) rfl ?_
  first
    | refine L_v (opv_fieldAddr0 rfl) rfl ?_
    | refine L_v (opv_fieldAddr rfl) rfl ?_
  refine L_x rfl (opx_store rfl rfl rfl (by simp [Value.oneCell'])) (fun _ _ => ?_)
  refine L_nil ?_
  rw [← bts_append, ← ByteArray.size_append]
  exact K_end0 rfl () trivial rfl (Ent.trans Ent.take (WrP.fold y19))


theorem ones_le (s : ByteArray) : ones s ≤ 65535 := Nat.sub_le _ _
theorem putS_fit {s : ByteArray} {m : Int} {k c : Nat} (hm : m = k) (h : k / 2 ^ (8 * c) = 0) (hc : c ≤ 4) : putS s false m c = (s ++ be k c, false) := by
  subst hm
  have e : fitB (k : Int) (8 * c) := by
    refine ⟨by omega, ?_⟩
    rw [Int.toNat_natCast, Nat.min_eq_left (by omega)]
    have e2 : (2 : Int) ^ (8 * c) = ((2 ^ (8 * c) : Nat) : Int) := by rw [Int.natCast_pow]; rfl
    rw [e2, ← Int.natCast_ediv, h]
    rfl
  unfold putS
  rw [if_neg (by decide), if_pos e]
  rfl
theorem U16_ok (p : Nat) (s : ByteArray) (k : Nat) (hk : k ≤ 65535) (hs : s.size ≤ 1099511627776) : FSpec Try.prog 60 #[.pointer (some (ad p 0)), .int .i64 k] (WrP p s false) (fun _ : Unit => True) (fun _ => .tuple #[]) (fun _ => WrP p (s ++ be k 2) false) := by
  have := U16_spec p s false k (by omega) hs
  rwa [putS_fit rfl (by show k / 65536 = 0; omega) (by decide)] at this
theorem nil_app (s : ByteArray) : bytesL [] ++ s = s := by
  show ByteArray.empty ++ s = s
  simp
theorem fit16 {m : Int} : fitB m (8 * 2) ↔ 0 ≤ m ∧ m ≤ 65535 := by
  show (0 ≤ m ∧ m / 65536 = 0) ↔ _
  omega
theorem U16_n (p : Nat) (s : ByteArray) (m : Int) (hk : 0 ≤ m ∧ m ≤ 65535) (hs : s.size ≤ 1099511627776) : FSpec Try.prog 60 #[.pointer (some (ad p 0)), .int .i64 m] (WrP p s false) (fun _ : Unit => True) (fun _ => .tuple #[]) (fun _ => WrP p (s ++ be m.toNat 2) false) := by
  obtain ⟨k, rfl⟩ : ∃ k : Nat, m = k := ⟨m.toNat, by omega⟩
  exact U16_ok p s k (by omega) hs
theorem putS_size (s : ByteArray) (bad : Bool) (m : Int) (c : Nat) : (putS s bad m c).1.size ≤ s.size + c := by
  unfold putS
  split
  · dsimp only; omega
  · split
    · rw [ByteArray.size_append, be_size]; omega
    · dsimp only; omega

end Go.Proofs.Ytjpbpfihacfndaa
