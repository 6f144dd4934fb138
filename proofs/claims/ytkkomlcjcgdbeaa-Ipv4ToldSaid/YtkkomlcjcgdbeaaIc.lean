/- Contracts of icmp.Decode and of its reference, each proved by a walk over its code; they are used by the texts that import this one. -/
import Derived.Test.YtkkomlcjcgdbeaaIb
import Derived.Test.YtkkomlcjcgdbeaaBu
import Derived.Test.YtkkomlcjcgdbeaaO
import Derived.Test.YtkkomlcjcgdbeaaH
namespace Go.Proofs.Ytkkomlcjcgdbeaa
open Go.SLA
set_option maxRecDepth 100000
set_option linter.unusedVariables false
set_option linter.unusedSimpArgs false
attribute [local irreducible] J L K QL Rg FSpec OpV OpX Rd Back

/-- The echo that bytes say. -/
def parse (s : ByteArray) : Ec := ⟨decide (word s 0 = 0), (word s 4 : Nat), (word s 6 : Nat), s.extract 8 s.size⟩
theorem parse_t {s : ByteArray} (h : (word s 0 : Int) = 0) : parse s = ⟨true, (word s 4 : Nat), (word s 6 : Nat), s.extract 8 s.size⟩ := by unfold parse; rw [decide_eq_true (by omega)]
theorem parse_f {s : ByteArray} (h : ¬ (word s 0 : Int) = 0) : parse s = ⟨false, (word s 4 : Nat), (word s 6 : Nat), s.extract 8 s.size⟩ := by unfold parse; rw [decide_eq_false (by omega)]
theorem wfn {n : Nat} (h : n < 65536) : (Lit.int .i64 (n : Int)).wf = true := by
  have : -9223372036854775808 ≤ (n : Int) ∧ (n : Int) ≤ 9223372036854775807 := by omega
  simpa [Lit.wf, IntKind.min, IntKind.max, IntKind.signed, IntKind.bits] using this
theorem parse_ok {s : ByteArray} (h : s.size ≤ 72) : okEc (parse s) := ⟨wfn (word_lt s 4), wfn (word_lt s 6), by show (s.extract 8 s.size).size ≤ _; rw [ext_size s _ _ (Nat.le_refl _)]; unfold maxLen; omega⟩
theorem parse_nb (s : ByteArray) : numsB (parse s) := by
  have := word_lt s 4
  have := word_lt s 6
  unfold numsB parse
  dsimp only
  omega
theorem parse_sz (s : ByteArray) : (parse s).text.size = s.size - 8 := ext_size s _ _ (Nat.le_refl _)
/-- The echo that bytes are, or why they are none. -/
def decI (s : ByteArray) : Ec × Int := if s.size < 8 then (ec0, 10) else if 72 < s.size then (ec0, 11) else if ¬ (word s 0 = 0 ∨ word s 0 = 2048) then (ec0, 13) else if echo (parse s) = s then (parse s, 0) else (ec0, 12)
theorem decI_a {s : ByteArray} (h : s.size < 8) : decI s = (ec0, 10) := by unfold decI; rw [if_pos h]
theorem decI_b {s : ByteArray} (h : 72 < s.size) : decI s = (ec0, 11) := by unfold decI; rw [if_neg (by omega), if_pos h]
theorem decI_c {s : ByteArray} (h : ¬ s.size < 8) (h' : ¬ 72 < s.size) (k : ¬ (word s 0 = 0 ∨ word s 0 = 2048)) : decI s = (ec0, 13) := by unfold decI; rw [if_neg h, if_neg h', if_pos k]
theorem decI_d {s : ByteArray} (h : ¬ s.size < 8) (h' : ¬ 72 < s.size) (k : word s 0 = 0 ∨ word s 0 = 2048) (e : echo (parse s) ≠ s) : decI s = (ec0, 12) := by unfold decI; rw [if_neg h, if_neg h', if_neg (fun n => n k), if_neg e]
theorem decI_e {s : ByteArray} (h : ¬ s.size < 8) (h' : ¬ 72 < s.size) (k : word s 0 = 0 ∨ word s 0 = 2048) (e : ¬ echo (parse s) ≠ s) : decI s = (parse s, 0) := by unfold decI; rw [if_neg h, if_neg h', if_neg (fun n => n k), if_pos (Classical.not_not.1 e)]
attribute [local irreducible] be ones echoT echo word

theorem RU16_zero (p : Nat) (s : ByteArray) (h : 2 ≤ s.size) : FSpec Try.prog 34 #[.pointer (some (ad p 0))] (cel p [.string s, .int .i64 0] 84) (fun _ : Unit => True) (fun _ => .int .i64 (word s 0)) (fun _ => cel p [.string (s.extract 2 s.size), .int .i64 0] 84) := RU16_ok p s h
theorem Decode_spec (s : ByteArray) : FSpec Try.prog 18 #[.string s] (emp) (fun _ : Unit => True) (fun _ => .tuple #[.agg (encEc (decI s).1).toArray, .int .i64 (decI s).2]) (fun _ => emp) := by
  refine FSpec.enter' Try.func18 rfl Try.ntmps18 rfl fun σ F => ?_
  refine J_emp ?_
  refine J_seq ?_
  refine J_region ?_
  refine L_x rfl (opx_alloc rfl) (fun b2 _ => ?_)
  refine L_v (opv_assign rfl) rfl ?_
  refine L_nil ?_
  refine K_then ?_
  refine J_seq ?_
  refine J_block ?_
  refine J_seq ?_
  refine J_region ?_
  refine L_v (opv_move rfl) rfl ?_
  first
    | refine L_v (opv_lenL rfl) rfl ?_
    | refine L_v (opv_lenS rfl) rfl ?_
  refine L_v (opv_lss rfl rfl) rfl ?_
  refine L_v (opv_assign rfl) rfl ?_
  refine L_nil ?_
  refine K_then ?_
  refine J_cond rfl (fun h1 => ?_) (fun h1 => ?_)
  · refine J_seq ?_
    refine J_region ?_
    refine L_v (opv_build rfl) rfl ?_
    refine L_x rfl (opx_store rfl rfl rfl (by simp [Value.oneCell'])) (fun _ _ => ?_)
    refine L_v (opv_assign rfl) rfl ?_
    refine L_nil ?_
    refine K_then ?_
    refine J_ret ?_
    refine K_block_ret ?_
    refine K_then_ret ?_
    exact K_ret2c rfl rfl rfl rfl () trivial (by rw [decI_a (by omega)]; rfl) Ent.take
  · refine J_seq ?_
    refine J_region ?_
    refine L_v (opv_move rfl) rfl ?_
    first
      | refine L_v (opv_lenL rfl) rfl ?_
      | refine L_v (opv_lenS rfl) rfl ?_
    refine L_v (opv_gtr rfl rfl) rfl ?_
    refine L_v (opv_assign rfl) rfl ?_
    refine L_nil ?_
    refine K_then ?_
    refine J_cond rfl (fun h2 => ?_) (fun h2 => ?_)
    · refine J_seq ?_
      refine J_region ?_
      refine L_v (opv_build rfl) rfl ?_
      refine L_x rfl (opx_store rfl rfl rfl (by simp [Value.oneCell'])) (fun _ _ => ?_)
      refine L_v (opv_assign rfl) rfl ?_
      refine L_nil ?_
      refine K_then ?_
      refine J_ret ?_
      refine K_block_ret ?_
      refine K_then_ret ?_
      exact K_ret2c rfl rfl rfl rfl () trivial (by rw [decI_b (by omega)]; rfl) Ent.take
    · refine J_skip ?_
      refine K_block ?_
      refine K_then ?_
      refine J_seq ?_
      refine J_region ?_
      refine L_v (opv_move rfl) rfl ?_
      refine L_x rfl (opx_call0 (Read_spec s) rfl rfl rfl) (fun p _ => ?_)
      refine L_v (opv_assign rfl) rfl ?_
      refine L_nil ?_
      refine K_then ?_
      refine J_seq ?_
      refine J_region ?_
      refine L_x rfl (opx_alloc rfl) (fun b5 _ => ?_)
      refine L_nil ?_
      refine K_then ?_
      refine J_seq ?_
      refine J_seq ?_
      refine J_region ?_
      refine L_v (opv_move rfl) rfl ?_
      refine L_x rfl (opx_call0 (RU16_zero p s (by omega)) rfl rfl rfl) (fun _ _ => ?_)
      refine L_v (opv_assign rfl) rfl ?_
      refine L_nil ?_
      refine K_then ?_
      refine J_seq ?_
      refine J_region ?_
      refine L_v (opv_move rfl) rfl ?_
      refine L_nil ?_
      refine K_then ?_
      refine J_block ?_
      refine J_seq ?_
      refine J_block ?_
      refine J_seq ?_
      refine J_block ?_
      refine J_seq ?_
      refine J_block ?_
      refine J_seq ?_
      refine J_seq ?_
      refine J_seq ?_
      refine J_region ?_
      first
        | refine L_v (opv_eql rfl rfl) rfl ?_
        | refine L_v (opv_eqlS rfl rfl) rfl ?_
        | refine L_v (opv_eqlNil rfl rfl) rfl ?_
        | refine L_v (opv_eqlB rfl rfl) rfl ?_
      refine L_v (opv_assign rfl) rfl ?_
      refine L_nil ?_
      refine K_then ?_
      refine J_cond rfl (fun h3 => ?_) (fun h3 => ?_)
      · have hp := parse_t h3
        refine J_exit ?_
        refine K_then_exit ?_
        refine K_then_exit ?_
        refine K_block_here ?_
        refine K_then ?_
        refine J_region ?_
        first
          | refine L_v (opv_fieldAddr0 rfl) rfl ?_
          | refine L_v (opv_fieldAddr rfl) rfl ?_
        refine L_x rfl (opx_store rfl rfl rfl (by simp [Value.oneCell'])) (fun _ _ => ?_)
        refine L_nil ?_
        refine K_block ?_
        refine K_then ?_
        refine J_seq ?_
        refine J_seq ?_
        refine J_region ?_
        refine L_v (opv_move rfl) rfl ?_
        refine L_x rfl (opx_call0 (RU16_at p 2 s (by omega)) rfl rfl rfl) (fun _ _ => ?_)
        refine L_nil ?_
        refine K_then ?_
        refine J_seq ?_
        refine J_region ?_
        refine L_v (opv_move rfl) rfl ?_
        refine L_x rfl (opx_call0 (RU16_at p 4 s (by omega)) rfl rfl rfl) (fun _ _ => ?_)
        refine L_v (opv_move rfl) rfl ?_
        refine L_x rfl (opx_call0 (RU16_at p 6 s (by omega)) rfl rfl rfl) (fun _ _ => ?_)
        first
          | refine L_v (opv_fieldAddr0 rfl) rfl ?_
          | refine L_v (opv_fieldAddr rfl) rfl ?_
        refine L_x rfl (opx_store rfl rfl rfl (by simp [Value.oneCell'])) (fun _ _ => ?_)
        first
          | refine L_v (opv_fieldAddr0 rfl) rfl ?_
          | refine L_v (opv_fieldAddr rfl) rfl ?_
        refine L_x rfl (opx_store rfl rfl rfl (by simp [Value.oneCell'])) (fun _ _ => ?_)
        refine L_nil ?_
        refine K_then ?_
        refine J_region ?_
        refine L_v (opv_move rfl) rfl ?_
        refine L_x rfl (opx_call0 (Rest_ok p (s.extract 8 s.size)) rfl rfl rfl) (fun _ _ => ?_)
        first
          | refine L_v (opv_fieldAddr0 rfl) rfl ?_
          | refine L_v (opv_fieldAddr rfl) rfl ?_
        refine L_x rfl (opx_store rfl rfl rfl (by simp [Value.oneCell'])) (fun _ _ => ?_)
        refine L_nil ?_
        refine K_then ?_
        refine J_exit ?_
        refine K_block_on rfl ?_
        refine K_then_exit ?_
        refine K_block_here ?_
        refine K_then ?_
        refine J_seq ?_
        refine J_seq ?_
        refine J_region ?_
        refine L_v (opv_loadS rfl) rfl ?_
        refine L_x rfl (opx_call0 (Encode_ok (⟨true, (word s 4 : Nat), (word s 6 : Nat), s.extract 8 s.size⟩ : Ec) (hp ▸ parse_ok (by omega)) (hp ▸ parse_nb s) (by rw [ext_size s _ _ (Nat.le_refl _)]; omega)) rfl rfl rfl) (fun _ _ => ?_)
        refine L_emp ?_
        refine L_v (opv_move rfl) rfl ?_
        refine L_v (opv_extract rfl rfl) rfl ?_
        refine L_v (opv_extract rfl rfl) rfl ?_
        refine L_v (opv_assign rfl) rfl ?_
        refine L_v (opv_assign rfl) rfl ?_
        refine L_nil ?_
        refine K_then ?_
        refine J_seq ?_
        refine J_region ?_
        refine L_v (opv_move rfl) rfl ?_
        refine L_v (opv_move rfl) rfl ?_
        first
          | refine L_v (opv_neq rfl rfl) rfl ?_
          | refine L_v (opv_neqS rfl rfl) rfl ?_
          | refine L_v (opv_neqNil rfl rfl) rfl ?_
          | refine L_v (opv_neqB rfl rfl) rfl ?_
        refine L_nil ?_
        refine K_then ?_
        refine J_cond rfl (fun h4 => ?_) (fun h4 => ?_)
        · refine J_seq ?_
          refine J_region ?_
          refine L_v (opv_build rfl) rfl ?_
          refine L_x rfl (opx_store rfl rfl rfl (by simp [Value.oneCell'])) (fun _ _ => ?_)
          refine L_v (opv_assign rfl) rfl ?_
          refine L_nil ?_
          refine K_then ?_
          refine J_ret ?_
          refine K_then_ret ?_
          exact K_ret2c rfl rfl rfl rfl () trivial (by rw [decI_d (by omega) (by omega) (by omega) (by rw [hp]; assumption)]; rfl) Ent.take
        · refine J_skip ?_
          refine K_then ?_
          refine J_seq ?_
          refine J_region ?_
          refine L_v (opv_loadS rfl) rfl ?_
          refine L_x rfl (opx_store rfl rfl rfl (by simp [Value.oneCell'])) (fun _ _ => ?_)
          refine L_v (opv_assign rfl) rfl ?_
          refine L_nil ?_
          refine K_then ?_
          refine J_ret ?_
          exact K_ret2c rfl rfl rfl rfl () trivial (by rw [decI_e (by omega) (by omega) (by omega) (by rw [hp]; assumption), hp]; rfl) Ent.take
      · have hp := parse_f h3
        refine J_skip ?_
        refine K_then ?_
        refine J_seq ?_
        refine J_region ?_
        first
          | refine L_v (opv_eql rfl rfl) rfl ?_
          | refine L_v (opv_eqlS rfl rfl) rfl ?_
          | refine L_v (opv_eqlNil rfl rfl) rfl ?_
          | refine L_v (opv_eqlB rfl rfl) rfl ?_
        refine L_v (opv_assign rfl) rfl ?_
        refine L_nil ?_
        refine K_then ?_
        refine J_cond rfl (fun h5 => ?_) (fun h5 => ?_)
        · refine J_exit ?_
          refine K_then_exit ?_
          refine K_block_on rfl ?_
          refine K_then_exit ?_
          refine K_block_here ?_
          refine K_then ?_
          refine J_seq ?_
          refine J_seq ?_
          refine J_region ?_
          refine L_v (opv_move rfl) rfl ?_
          refine L_x rfl (opx_call0 (RU16_at p 2 s (by omega)) rfl rfl rfl) (fun _ _ => ?_)
          refine L_nil ?_
          refine K_then ?_
          refine J_seq ?_
          refine J_region ?_
          refine L_v (opv_move rfl) rfl ?_
          refine L_x rfl (opx_call0 (RU16_at p 4 s (by omega)) rfl rfl rfl) (fun _ _ => ?_)
          refine L_v (opv_move rfl) rfl ?_
          refine L_x rfl (opx_call0 (RU16_at p 6 s (by omega)) rfl rfl rfl) (fun _ _ => ?_)
          first
            | refine L_v (opv_fieldAddr0 rfl) rfl ?_
            | refine L_v (opv_fieldAddr rfl) rfl ?_
          refine L_x rfl (opx_store rfl rfl rfl (by simp [Value.oneCell'])) (fun _ _ => ?_)
          first
            | refine L_v (opv_fieldAddr0 rfl) rfl ?_
            | refine L_v (opv_fieldAddr rfl) rfl ?_
          refine L_x rfl (opx_store rfl rfl rfl (by simp [Value.oneCell'])) (fun _ _ => ?_)
          refine L_nil ?_
          refine K_then ?_
          refine J_region ?_
          refine L_v (opv_move rfl) rfl ?_
          refine L_x rfl (opx_call0 (Rest_ok p (s.extract 8 s.size)) rfl rfl rfl) (fun _ _ => ?_)
          first
            | refine L_v (opv_fieldAddr0 rfl) rfl ?_
            | refine L_v (opv_fieldAddr rfl) rfl ?_
          refine L_x rfl (opx_store rfl rfl rfl (by simp [Value.oneCell'])) (fun _ _ => ?_)
          refine L_nil ?_
          refine K_then ?_
          refine J_exit ?_
          refine K_block_on rfl ?_
          refine K_then_exit ?_
          refine K_block_here ?_
          refine K_then ?_
          refine J_seq ?_
          refine J_seq ?_
          refine J_region ?_
          refine L_v (opv_loadS rfl) rfl ?_
          refine L_x rfl (opx_call0 (Encode_ok (⟨false, (word s 4 : Nat), (word s 6 : Nat), s.extract 8 s.size⟩ : Ec) (hp ▸ parse_ok (by omega)) (hp ▸ parse_nb s) (by rw [ext_size s _ _ (Nat.le_refl _)]; omega)) rfl rfl rfl) (fun _ _ => ?_)
          refine L_emp ?_
          refine L_v (opv_move rfl) rfl ?_
          refine L_v (opv_extract rfl rfl) rfl ?_
          refine L_v (opv_extract rfl rfl) rfl ?_
          refine L_v (opv_assign rfl) rfl ?_
          refine L_v (opv_assign rfl) rfl ?_
          refine L_nil ?_
          refine K_then ?_
          refine J_seq ?_
          refine J_region ?_
          refine L_v (opv_move rfl) rfl ?_
          refine L_v (opv_move rfl) rfl ?_
          first
            | refine L_v (opv_neq rfl rfl) rfl ?_
            | refine L_v (opv_neqS rfl rfl) rfl ?_
            | refine L_v (opv_neqNil rfl rfl) rfl ?_
            | refine L_v (opv_neqB rfl rfl) rfl ?_
          refine L_nil ?_
          refine K_then ?_
          refine J_cond rfl (fun h6 => ?_) (fun h6 => ?_)
          · refine J_seq ?_
            refine J_region ?_
            refine L_v (opv_build rfl) rfl ?_
            refine L_x rfl (opx_store rfl rfl rfl (by simp [Value.oneCell'])) (fun _ _ => ?_)
            refine L_v (opv_assign rfl) rfl ?_
            refine L_nil ?_
            refine K_then ?_
            refine J_ret ?_
            refine K_then_ret ?_
            exact K_ret2c rfl rfl rfl rfl () trivial (by rw [decI_d (by omega) (by omega) (by omega) (by rw [hp]; assumption)]; rfl) Ent.take
          · refine J_skip ?_
            refine K_then ?_
            refine J_seq ?_
            refine J_region ?_
            refine L_v (opv_loadS rfl) rfl ?_
            refine L_x rfl (opx_store rfl rfl rfl (by simp [Value.oneCell'])) (fun _ _ => ?_)
            refine L_v (opv_assign rfl) rfl ?_
            refine L_nil ?_
            refine K_then ?_
            refine J_ret ?_
            exact K_ret2c rfl rfl rfl rfl () trivial (by rw [decI_e (by omega) (by omega) (by omega) (by rw [hp]; assumption), hp]; rfl) Ent.take
        · refine J_skip ?_
          refine K_then ?_
          refine J_exit ?_
          refine K_block_on rfl ?_
          refine K_then_exit ?_
          refine K_block_on rfl ?_
          refine K_then_exit ?_
          refine K_block_here ?_
          refine K_then ?_
          refine J_seq ?_
          refine J_seq ?_
          refine J_region ?_
          refine L_v (opv_build rfl) rfl ?_
          refine L_x rfl (opx_store rfl rfl rfl (by simp [Value.oneCell'])) (fun _ _ => ?_)
          refine L_v (opv_assign rfl) rfl ?_
          refine L_nil ?_
          refine K_then ?_
          refine J_ret ?_
          refine K_then_ret ?_
          refine K_block_ret ?_
          refine K_then_ret ?_
          exact K_ret2c rfl rfl rfl rfl () trivial (by rw [decI_c (by omega) (by omega) (by omega)]; rfl) Ent.take

end Go.Proofs.Ytkkomlcjcgdbeaa
