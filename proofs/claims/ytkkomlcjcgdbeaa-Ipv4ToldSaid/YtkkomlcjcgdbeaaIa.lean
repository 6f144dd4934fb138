/- Contracts of functions of the translation, each proved by a walk over its code; they are used by the texts that import this one. -/
import Derived.Test.YtkkomlcjcgdbeaaBh
import Derived.Test.YtkkomlcjcgdbeaaH
namespace Go.Proofs.Ytkkomlcjcgdbeaa
open Go.SLA
set_option maxRecDepth 100000
set_option linter.unusedVariables false
set_option linter.unusedSimpArgs false
attribute [local irreducible] J L K QL Rg FSpec OpV OpX Rd Back
structure Ec where
  rep : Bool
  id : Int
  seq : Int
  text : ByteArray
def encEc (x : Ec) : List Value := [.bool x.rep, .int .i64 x.id, .int .i64 x.seq, .string x.text]
def okEc (x : Ec) : Prop := (Lit.int .i64 x.id).wf = true ∧ (Lit.int .i64 x.seq).wf = true ∧ x.text.size ≤ maxLen
abbrev ksEc : List CK := [.bool, .int .i64, .int .i64, .str]
theorem encEc_len (x : Ec) : (encEc x).length = 4 := rfl
theorem decEc (cs : List Value) (h : Kinds ksEc cs) : ∃ x, cs = encEc x ∧ okEc x := by
  obtain ⟨hl, hk⟩ := h
  obtain ⟨v0, g0, x0, rfl⟩ := hk 0 _ rfl
  obtain ⟨v1, g1, x1, rfl, w1⟩ := hk 1 _ rfl
  obtain ⟨v2, g2, x2, rfl, w2⟩ := hk 2 _ rfl
  obtain ⟨v3, g3, x3, rfl, w3⟩ := hk 3 _ rfl
  match cs, hl with
  | [c0, c1, c2, c3], _ =>
    simp only [List.getElem?_cons_zero, List.getElem?_cons_succ, Option.some.injEq] at g0 g1 g2 g3
    exact ⟨⟨x0, x1, x2, x3⟩, by simp only [encEc, *], ⟨w1, w2, w3⟩⟩


theorem wf64 {n : Int} (h : (Lit.int .i64 n).wf = true) : -9223372036854775808 ≤ n ∧ n ≤ 9223372036854775807 := by simpa [Lit.wf, IntKind.min, IntKind.max, IntKind.signed, IntKind.bits] using h
theorem okEc.i {x : Ec} (h : okEc x) : -9223372036854775808 ≤ x.id ∧ x.id ≤ 9223372036854775807 := wf64 h.1
theorem okEc.s {x : Ec} (h : okEc x) : -9223372036854775808 ≤ x.seq ∧ x.seq ≤ 9223372036854775807 := wf64 h.2.1
def numsB (x : Ec) : Prop := (0 ≤ x.id ∧ x.id ≤ 65535) ∧ (0 ≤ x.seq ∧ x.seq ≤ 65535)
instance (x : Ec) : Decidable (numsB x) := inferInstanceAs (Decidable (_ ∧ _))
def kindN (x : Ec) : Nat := if x.rep = true then 0 else 8
/-- An echo with a sum in it. -/
def echoT (x : Ec) (n : Nat) : ByteArray := be (kindN x) 1 ++ be 0 1 ++ be n 2 ++ be x.id.toNat 2 ++ be x.seq.toNat 2 ++ x.text
def echo (x : Ec) : ByteArray := echoT x (ones (echoT x 0))
theorem put_bad2 {s : ByteArray} {f g : Int} (h : ¬ ((0 ≤ f ∧ f ≤ 65535) ∧ (0 ≤ g ∧ g ≤ 65535))) : (putS (putS s false f 2).1 (putS s false f 2).2 g 2).2 = true := by
  by_cases h1 : fitB f (8 * 2)
  · have h2 : ¬ fitB g (8 * 2) := fun h2 => h ⟨fit16.1 h1, fit16.1 h2⟩
    have e : putS s false f 2 = (s ++ be f.toNat 2, false) := by unfold putS; rw [if_neg (by decide), if_pos h1]
    rw [e]
    unfold putS
    rw [if_neg (fun h => by cases h), if_neg h2]
  · have e : putS s false f 2 = (s, true) := by unfold putS; rw [if_neg (by decide), if_neg h1]
    rw [e]
    unfold putS
    rw [if_pos rfl]
theorem U8_n (p : Nat) (s : ByteArray) (k : Nat) (hk : k ≤ 255) (hs : s.size ≤ 1099511627776) : FSpec Try.prog 36 #[.pointer (some (ad p 0)), .int .i64 k] (WrP p s false) (fun _ : Unit => True) (fun _ => .tuple #[]) (fun _ => WrP p (s ++ be k 1) false) := by
  have := U8_spec p s false k (by omega) hs
  rwa [putS_fit rfl (by show k / 256 = 0; omega) (by decide)] at this
attribute [local irreducible] be ones

theorem written_ok (x : Ec) (n : Nat) (hn : n ≤ 65535) (h : numsB x) (ht : x.text.size ≤ 140737488351232) : FSpec Try.prog 29 #[.agg (encEc x).toArray, .int .i64 n] (emp) (fun _ : Unit => True) (fun _ => .tuple #[.string (echoT x n), .int .i64 0]) (fun _ => emp) := by
  have hz1 : (be (kindN x) 1).size = 1 := be_size _ _
  have hz2 : (be (kindN x) 1 ++ be 0 1).size = 2 := by rw [ByteArray.size_append, be_size, be_size]
  have hz3 : (be (kindN x) 1 ++ be 0 1 ++ be n 2).size = 4 := by rw [ByteArray.size_append, hz2, be_size]
  have hz4 : (be (kindN x) 1 ++ be 0 1 ++ be n 2 ++ be x.id.toNat 2).size = 6 := by rw [ByteArray.size_append, hz3, be_size]
  have hz5 : (be (kindN x) 1 ++ be 0 1 ++ be n 2 ++ be x.id.toNat 2 ++ be x.seq.toNat 2).size = 8 := by rw [ByteArray.size_append, hz4, be_size]
  refine FSpec.enter' Try.func29 rfl Try.ntmps29 rfl fun σ F => ?_
  refine J_emp ?_
  refine J_seq ?_
  refine J_region ?_
  refine L_x rfl (opx_box (l := [.bool x.rep, .int .i64 x.id, .int .i64 x.seq, .string x.text]) rfl rfl) (fun b2 _ => ?_)
  refine L_v (opv_assign rfl) rfl ?_
  refine L_v (opv_assign rfl) rfl ?_
  refine L_nil ?_
  refine K_then ?_
  refine J_seq ?_
  refine J_region ?_
  refine L_v (opv_build rfl) rfl ?_
  refine L_x rfl (opx_box rfl rfl) (fun p _ => ?_)
  refine L_v (opv_assign rfl) rfl ?_
  refine L_nil ?_
  refine K_then ?_
  refine J_seq ?_
  refine J_imp _ WrP_new ?_
  refine J_region ?_
  refine L_v (opv_assign rfl) rfl ?_
  refine L_nil ?_
  refine K_then ?_
  refine J_cut (X := Unit) (fun _ => [(1, .int .i64 n), (2, .pointer (some (ad b2 0))), (6, .pointer (some (ad p 0))), (7, .int .i64 (kindN x))]) (fun _ => (sep (WrP p (bytesL []) false) ((sep (cel b2 [.bool x.rep, .int .i64 x.id, .int .i64 x.seq, .string x.text] 23) (F))))) (fun _ => True) ?_ (fun _ _ => ?_)
  · refine J_seq ?_
    refine J_region ?_
    first
      | refine L_v (opv_fieldAddr0 rfl) rfl ?_
      | refine L_v (opv_fieldAddr rfl) rfl ?_
    refine L_v (opv_load rfl (Rd.look rfl)) rfl ?_
    refine L_nil ?_
    refine K_then ?_
    refine J_cond_bool rfl (fun h1 => ?_) (fun h1 => ?_)
    · refine J_region ?_
      refine L_v (opv_assign rfl) rfl ?_
      refine L_nil ?_
      exact K_cut () (by trivial) ⟨rfl, rfl, rfl, (show Value.int .i64 0 = .int .i64 (kindN x : Int) by unfold kindN; rw [if_pos (by assumption)]; rfl) ▸ rfl, trivial⟩ (Ent.refl _)
    · refine J_skip ?_
      exact K_cut () (by trivial) ⟨rfl, rfl, rfl, (show Value.int .i64 8 = .int .i64 (kindN x : Int) by unfold kindN; rw [if_neg (by simp [*])]; rfl) ▸ rfl, trivial⟩ (Ent.refl _)
  · refine J_seq ?_
    refine J_region ?_
    refine L_v (opv_move rfl) rfl ?_
    refine L_v (opv_move rfl) rfl ?_
    refine L_x rfl (opx_call0 (U8_n p (bytesL []) (kindN x) (by unfold kindN; split <;> decide) (by decide)) rfl rfl rfl) (fun _ _ => ?_)
    rw [nil_app]
    refine L_nil ?_
    refine K_then ?_
    refine J_seq ?_
    refine J_region ?_
    refine L_v (opv_move rfl) rfl ?_
    refine L_x rfl (opx_call0 (U8_n p (be (kindN x) 1) 0 (by decide) (by omega)) rfl rfl rfl) (fun _ _ => ?_)
    refine L_nil ?_
    refine K_then ?_
    refine J_seq ?_
    refine J_region ?_
    refine L_v (opv_move rfl) rfl ?_
    refine L_v (opv_move rfl) rfl ?_
    refine L_x rfl (opx_call0 (U16_ok p (be (kindN x) 1 ++ be 0 1) n hn (by omega)) rfl rfl rfl) (fun _ _ => ?_)
    refine L_nil ?_
    refine K_then ?_
    refine J_seq ?_
    refine J_region ?_
    refine L_v (opv_move rfl) rfl ?_
    first
      | refine L_v (opv_fieldAddr0 rfl) rfl ?_
      | refine L_v (opv_fieldAddr rfl) rfl ?_
    refine L_v (opv_load rfl (Rd.look rfl)) rfl ?_
    refine L_x rfl (opx_call0 (U16_n p (be (kindN x) 1 ++ be 0 1 ++ be n 2) x.id h.1 (by omega)) rfl rfl rfl) (fun _ _ => ?_)
    refine L_nil ?_
    refine K_then ?_
    refine J_seq ?_
    refine J_region ?_
    refine L_v (opv_move rfl) rfl ?_
    first
      | refine L_v (opv_fieldAddr0 rfl) rfl ?_
      | refine L_v (opv_fieldAddr rfl) rfl ?_
    refine L_v (opv_load rfl (Rd.look rfl)) rfl ?_
    refine L_x rfl (opx_call0 (U16_n p (be (kindN x) 1 ++ be 0 1 ++ be n 2 ++ be x.id.toNat 2) x.seq h.2 (by omega)) rfl rfl rfl) (fun _ _ => ?_)
    refine L_nil ?_
    refine K_then ?_
    refine J_seq ?_
    refine J_region ?_
    refine L_v (opv_move rfl) rfl ?_
    first
      | refine L_v (opv_fieldAddr0 rfl) rfl ?_
      | refine L_v (opv_fieldAddr rfl) rfl ?_
    refine L_v (opv_load rfl (Rd.look rfl)) rfl ?_
    refine L_x rfl (opx_call0 (WText_big p (be (kindN x) 1 ++ be 0 1 ++ be n 2 ++ be x.id.toNat 2 ++ be x.seq.toNat 2) x.text (by omega) ht) rfl rfl rfl) (fun _ _ => ?_)
    refine L_nil ?_
    refine K_then ?_
    refine J_seq ?_
    refine J_region ?_
    refine L_v (opv_move rfl) rfl ?_
    refine L_x rfl (opx_call0 (Bytes_ok p ((be (kindN x) 1 ++ be 0 1 ++ be n 2 ++ be x.id.toNat 2 ++ be x.seq.toNat 2) ++ x.text)) rfl rfl rfl) (fun _ _ => ?_)
    refine L_v (opv_extract rfl rfl) rfl ?_
    refine L_v (opv_extract rfl rfl) rfl ?_
    refine L_v (opv_assign rfl) rfl ?_
    refine L_v (opv_assign rfl) rfl ?_
    refine L_nil ?_
    refine K_then ?_
    refine J_ret ?_
    exact K_ret2 rfl rfl rfl () trivial rfl Ent.take

theorem written_bad (x : Ec) (n : Nat) (hx : okEc x) (hn : n ≤ 65535) (h : ¬ numsB x) (ht : x.text.size ≤ 140737488351232) : FSpec Try.prog 29 #[.agg (encEc x).toArray, .int .i64 n] (emp) (fun _ : Unit => True) (fun _ => .tuple #[.string (ByteArray.empty), .int .i64 1]) (fun _ => emp) := by
  have hz1 : (be (kindN x) 1).size = 1 := be_size _ _
  have hz2 : (be (kindN x) 1 ++ be 0 1).size = 2 := by rw [ByteArray.size_append, be_size, be_size]
  have hz3 : (be (kindN x) 1 ++ be 0 1 ++ be n 2).size = 4 := by rw [ByteArray.size_append, hz2, be_size]
  have hz4 : (be (kindN x) 1 ++ be 0 1 ++ be n 2 ++ be x.id.toNat 2).size = 6 := by rw [ByteArray.size_append, hz3, be_size]
  have hz5 : (be (kindN x) 1 ++ be 0 1 ++ be n 2 ++ be x.id.toNat 2 ++ be x.seq.toNat 2).size = 8 := by rw [ByteArray.size_append, hz4, be_size]
  refine FSpec.enter' Try.func29 rfl Try.ntmps29 rfl fun σ F => ?_
  refine J_emp ?_
  refine J_seq ?_
  refine J_region ?_
  refine L_x rfl (opx_box (l := [.bool x.rep, .int .i64 x.id, .int .i64 x.seq, .string x.text]) rfl rfl) (fun b2 _ => ?_)
  refine L_v (opv_assign rfl) rfl ?_
  refine L_v (opv_assign rfl) rfl ?_
  refine L_nil ?_
  refine K_then ?_
  refine J_seq ?_
  refine J_region ?_
  refine L_v (opv_build rfl) rfl ?_
  refine L_x rfl (opx_box rfl rfl) (fun p _ => ?_)
  refine L_v (opv_assign rfl) rfl ?_
  refine L_nil ?_
  refine K_then ?_
  refine J_seq ?_
  refine J_imp _ WrP_new ?_
  refine J_region ?_
  refine L_v (opv_assign rfl) rfl ?_
  refine L_nil ?_
  refine K_then ?_
  refine J_cut (X := Unit) (fun _ => [(1, .int .i64 n), (2, .pointer (some (ad b2 0))), (6, .pointer (some (ad p 0))), (7, .int .i64 (kindN x))]) (fun _ => (sep (WrP p (bytesL []) false) ((sep (cel b2 [.bool x.rep, .int .i64 x.id, .int .i64 x.seq, .string x.text] 23) (F))))) (fun _ => True) ?_ (fun _ _ => ?_)
  · refine J_seq ?_
    refine J_region ?_
    first
      | refine L_v (opv_fieldAddr0 rfl) rfl ?_
      | refine L_v (opv_fieldAddr rfl) rfl ?_
    refine L_v (opv_load rfl (Rd.look rfl)) rfl ?_
    refine L_nil ?_
    refine K_then ?_
    refine J_cond_bool rfl (fun h1 => ?_) (fun h1 => ?_)
    · refine J_region ?_
      refine L_v (opv_assign rfl) rfl ?_
      refine L_nil ?_
      exact K_cut () (by trivial) ⟨rfl, rfl, rfl, (show Value.int .i64 0 = .int .i64 (kindN x : Int) by unfold kindN; rw [if_pos (by assumption)]; rfl) ▸ rfl, trivial⟩ (Ent.refl _)
    · refine J_skip ?_
      exact K_cut () (by trivial) ⟨rfl, rfl, rfl, (show Value.int .i64 8 = .int .i64 (kindN x : Int) by unfold kindN; rw [if_neg (by simp [*])]; rfl) ▸ rfl, trivial⟩ (Ent.refl _)
  · refine J_seq ?_
    refine J_region ?_
    refine L_v (opv_move rfl) rfl ?_
    refine L_v (opv_move rfl) rfl ?_
    refine L_x rfl (opx_call0 (U8_n p (bytesL []) (kindN x) (by unfold kindN; split <;> decide) (by decide)) rfl rfl rfl) (fun _ _ => ?_)
    rw [nil_app]
    refine L_nil ?_
    refine K_then ?_
    refine J_seq ?_
    refine J_region ?_
    refine L_v (opv_move rfl) rfl ?_
    refine L_x rfl (opx_call0 (U8_n p (be (kindN x) 1) 0 (by decide) (by omega)) rfl rfl rfl) (fun _ _ => ?_)
    refine L_nil ?_
    refine K_then ?_
    refine J_seq ?_
    refine J_region ?_
    refine L_v (opv_move rfl) rfl ?_
    refine L_v (opv_move rfl) rfl ?_
    refine L_x rfl (opx_call0 (U16_ok p (be (kindN x) 1 ++ be 0 1) n hn (by omega)) rfl rfl rfl) (fun _ _ => ?_)
    refine L_nil ?_
    refine K_then ?_
    refine J_seq ?_
    refine J_region ?_
    refine L_v (opv_move rfl) rfl ?_
    first
      | refine L_v (opv_fieldAddr0 rfl) rfl ?_
      | refine L_v (opv_fieldAddr rfl) rfl ?_
    refine L_v (opv_load rfl (Rd.look rfl)) rfl ?_
    refine L_x rfl (opx_call0 (U16_spec p (be (kindN x) 1 ++ be 0 1 ++ be n 2) false x.id hx.i (by omega)) rfl rfl rfl) (fun _ _ => ?_)
    refine L_nil ?_
    refine K_then ?_
    refine J_seq ?_
    refine J_region ?_
    refine L_v (opv_move rfl) rfl ?_
    first
      | refine L_v (opv_fieldAddr0 rfl) rfl ?_
      | refine L_v (opv_fieldAddr rfl) rfl ?_
    refine L_v (opv_load rfl (Rd.look rfl)) rfl ?_
    refine L_x rfl (opx_call0 (U16_spec p (putS (be (kindN x) 1 ++ be 0 1 ++ be n 2) false x.id 2).1 (putS (be (kindN x) 1 ++ be 0 1 ++ be n 2) false x.id 2).2 x.seq hx.s (by have h := putS_size (be (kindN x) 1 ++ be 0 1 ++ be n 2) false x.id 2; omega)) rfl rfl rfl) (fun _ _ => ?_)
    refine L_nil ?_
    refine K_then ?_
    refine J_seq ?_
    rw [put_bad2 h]
    refine J_region ?_
    refine L_v (opv_move rfl) rfl ?_
    first
      | refine L_v (opv_fieldAddr0 rfl) rfl ?_
      | refine L_v (opv_fieldAddr rfl) rfl ?_
    refine L_v (opv_load rfl (Rd.look rfl)) rfl ?_
    refine L_x rfl (opx_call0 (WText_bad p (putS (putS (be (kindN x) 1 ++ be 0 1 ++ be n 2) false x.id 2).1 (putS (be (kindN x) 1 ++ be 0 1 ++ be n 2) false x.id 2).2 x.seq 2).1 x.text) rfl rfl rfl) (fun _ _ => ?_)
    refine L_nil ?_
    refine K_then ?_
    refine J_seq ?_
    refine J_region ?_
    refine L_v (opv_move rfl) rfl ?_
    refine L_x rfl (opx_call0 (Bytes_bad p (putS (putS (be (kindN x) 1 ++ be 0 1 ++ be n 2) false x.id 2).1 (putS (be (kindN x) 1 ++ be 0 1 ++ be n 2) false x.id 2).2 x.seq 2).1) rfl rfl rfl) (fun _ _ => ?_)
    refine L_v (opv_extract rfl rfl) rfl ?_
    refine L_v (opv_extract rfl rfl) rfl ?_
    refine L_v (opv_assign rfl) rfl ?_
    refine L_v (opv_assign rfl) rfl ?_
    refine L_nil ?_
    refine K_then ?_
    refine J_ret ?_
    exact K_ret2 rfl rfl rfl () trivial rfl Ent.take

end Go.Proofs.Ytkkomlcjcgdbeaa
