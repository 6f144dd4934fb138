/- Contracts of frag.Join and of its reference, each proved by a walk over its code; they are used by the texts that import this one. -/
import Derived.Test.YtjpbpfihacfndaaFf
import Derived.Test.YtjpbpfihacfndaaH
namespace Go.Proofs.Ytjpbpfihacfndaa
open Go.SLA
set_option maxRecDepth 100000
set_option linter.unusedVariables false
set_option linter.unusedSimpArgs false
attribute [local irreducible] J L K QL Rg FSpec OpV OpX Rd Back

/-- The bytes of parts, one behind the other, or what is wrong with one. -/
def jrun : List Pk → ByteArray → Int × ByteArray
  | [], all => (0, all)
  | x :: l, all => if fitC x all.size l.isEmpty ≠ 0 then (fitC x all.size l.isEmpty, all) else jrun l (all ++ x.data)
theorem jrun_bad {x : Pk} {l : List Pk} {all : ByteArray} (h : fitC x all.size l.isEmpty ≠ 0) : jrun (x :: l) all = (fitC x all.size l.isEmpty, all) := by rw [jrun, if_pos h]
theorem jrun_ok {x : Pk} {l : List Pk} {all : ByteArray} (h : fitC x all.size l.isEmpty = 0) : jrun (x :: l) all = jrun l (all ++ x.data) := by rw [jrun, if_neg (fun n => n h)]
/-- Which packet parts are of, or why of none. -/
def joinC (L : List Pk) : Pk × Int := match L with
  | [] => (pkz, 23)
  | x0 :: l0 => if odd (x0 :: l0) x0 < (x0 :: l0).length then (pkz, 15) else
    if (jrun (x0 :: l0) ByteArray.empty).1 ≠ 0 then (pkz, (jrun (x0 :: l0) ByteArray.empty).1) else
    if (((x0 :: l0)[(((x0 :: l0).length : Int) - 1).toNat]?).map (·.more)) = some true then (pkz, 10) else
    if 65515 < (jrun (x0 :: l0) ByteArray.empty).2.size then (pkz, 11) else ({ x0 with more := false, off := 0, data := (jrun (x0 :: l0) ByteArray.empty).2 }, 0)
section
variable {L : List Pk} {x0 : Pk}
theorem cons_of (h : L[0]? = some x0) : ∃ l0, L = x0 :: l0 := by
  cases L with
  | nil => cases h
  | cons x l => simp at h; exact ⟨l, by rw [h]⟩
theorem join_emp (h : L = []) : joinC L = (pkz, 23) := by rw [h]; rfl
theorem join_odd (h0 : L[0]? = some x0) (h : odd L x0 < L.length) : joinC L = (pkz, 15) := by
  obtain ⟨l0, rfl⟩ := cons_of h0
  exact if_pos h
theorem join_bad (h0 : L[0]? = some x0) (h : ¬ odd L x0 < L.length) (h1 : (jrun L ByteArray.empty).1 ≠ 0) : joinC L = (pkz, (jrun L ByteArray.empty).1) := by
  obtain ⟨l0, rfl⟩ := cons_of h0
  unfold joinC
  dsimp only
  rw [if_neg h, if_pos h1]
theorem join_short {xl : Pk} (h0 : L[0]? = some x0) (h : ¬ odd L x0 < L.length) (h1 : (jrun L ByteArray.empty).1 = 0) (hl : L[((L.length : Int) - 1).toNat]? = some xl) (h2 : xl.more = true) : joinC L = (pkz, 10) := by
  obtain ⟨l0, rfl⟩ := cons_of h0
  unfold joinC
  dsimp only
  rw [if_neg h, if_neg (fun n => n h1), hl, if_pos (by simp [h2])]
theorem join_long {xl : Pk} (h0 : L[0]? = some x0) (h : ¬ odd L x0 < L.length) (h1 : (jrun L ByteArray.empty).1 = 0) (hl : L[((L.length : Int) - 1).toNat]? = some xl) (h2 : ¬ xl.more = true) (h3 : 65515 < (jrun L ByteArray.empty).2.size) : joinC L = (pkz, 11) := by
  obtain ⟨l0, rfl⟩ := cons_of h0
  unfold joinC
  dsimp only
  rw [if_neg h, if_neg (fun n => n h1), hl, if_neg (by simpa using h2), if_pos h3]
theorem join_ok {xl : Pk} (h0 : L[0]? = some x0) (h : ¬ odd L x0 < L.length) (h1 : (jrun L ByteArray.empty).1 = 0) (hl : L[((L.length : Int) - 1).toNat]? = some xl) (h2 : ¬ xl.more = true) (h3 : ¬ 65515 < (jrun L ByteArray.empty).2.size) : joinC L = ({ x0 with more := false, off := 0, data := (jrun L ByteArray.empty).2 }, 0) := by
  obtain ⟨l0, rfl⟩ := cons_of h0
  unfold joinC
  dsimp only
  rw [if_neg h, if_neg (fun n => n h1), hl, if_neg (by simpa using h2), if_neg h3]
end
theorem drop_x {L : List Pk} {k : Nat} {x : Pk} (h : L[k]? = some x) : L.drop k = x :: L.drop (k + 1) := by
  have hk := glt h
  rw [List.getElem?_eq_getElem hk] at h
  simp only [Option.some.injEq] at h
  rw [List.drop_eq_getElem_cons hk, h]
theorem last_x {L : List Pk} {k : Nat} (h : k < L.length) : decide ((k : Int) + 1 = (L.length : Int)) = (L.drop (k + 1)).isEmpty := by
  cases hd : L.drop (k + 1) with
  | nil =>
    have := congrArg List.length hd
    rw [List.length_drop] at this
    simp only [List.length_nil] at this
    exact decide_eq_true (by omega)
  | cons y l =>
    have := congrArg List.length hd
    rw [List.length_drop] at this
    simp only [List.length_cons] at this
    exact decide_eq_false (by omega)

theorem Join_emp (R0 : HProp) (A : Option Addr) (c : Nat) (L : List Pk) (hR : RdS R0 encPk 14 A L) (hn : L.length ≤ 1000) (hz : ∀ x ∈ L, x.data.size ≤ 20000) (h : L = []) : FSpec Try.prog 20 #[.slice A L.length c] (R0) (fun _ : Unit => True) (fun _ => .tuple #[.agg (encPk (joinC L).1).toArray, .int .i64 (joinC L).2]) (fun _ => R0) := by
  refine FSpec.enter' Try.func20 rfl Try.ntmps20 rfl fun σ F => ?_
  refine J_seq ?_
  refine J_region ?_
  refine L_x rfl (opx_alloc rfl) (fun b2 _ => ?_)
  refine L_v (opv_assign rfl) rfl ?_
  refine L_nil ?_
  refine K_then ?_
  refine J_seq ?_
  refine J_seq ?_
  refine J_region ?_
  refine L_v (opv_move rfl) rfl ?_
  first
    | refine L_v (opv_lenL rfl) rfl ?_
    | refine L_v (opv_lenS rfl) rfl ?_
  refine L_v ((opv_eql rfl rfl).bool_t (by rw [h]; rfl)) rfl ?_
  refine L_nil ?_
  refine K_then ?_
  refine J_cond_true rfl ?_
  refine J_seq ?_
  refine J_region ?_
  refine L_v (opv_build rfl) rfl ?_
  refine L_x rfl (opx_store rfl rfl rfl (by simp [Value.oneCell'])) (fun _ _ => ?_)
  refine L_v (opv_assign rfl) rfl ?_
  refine L_nil ?_
  refine K_then ?_
  refine J_ret ?_
  refine K_then_ret ?_
  have e := join_emp h
  exact K_ret2c rfl rfl rfl rfl () trivial (by rw [e]; rfl) Ent.take

theorem Join_odd (R0 : HProp) (A : Option Addr) (c : Nat) (L : List Pk) (hR : RdS R0 encPk 14 A L) (hn : L.length ≤ 1000) (hz : ∀ x ∈ L, x.data.size ≤ 20000) (x0 : Pk) (hx0 : L[0]? = some x0) (h : odd L x0 < L.length) : FSpec Try.prog 20 #[.slice A L.length c] (R0) (fun _ : Unit => True) (fun _ => .tuple #[.agg (encPk (joinC L).1).toArray, .int .i64 (joinC L).2]) (fun _ => R0) := by
  have hlen := glt hx0
  obtain ⟨b, o, rfl⟩ := hR.nonnil 0 hlen
  refine FSpec.enter' Try.func20 rfl Try.ntmps20 rfl fun σ F => ?_
  refine J_seq ?_
  refine J_region ?_
  refine L_x rfl (opx_alloc rfl) (fun b2 _ => ?_)
  refine L_v (opv_assign rfl) rfl ?_
  refine L_nil ?_
  refine K_then ?_
  refine J_seq ?_
  refine J_seq ?_
  refine J_region ?_
  refine L_v (opv_move rfl) rfl ?_
  first
    | refine L_v (opv_lenL rfl) rfl ?_
    | refine L_v (opv_lenS rfl) rfl ?_
  refine L_v ((opv_eql rfl rfl).bool_f (by omega)) rfl ?_
  refine L_nil ?_
  refine K_then ?_
  refine J_cond_false rfl ?_
  refine J_skip ?_
  refine K_then ?_
  refine J_seq ?_
  refine J_region ?_
  refine L_v (opv_move rfl) rfl ?_
  refine L_v (opv_indexAddr rfl rfl (by omega)) rfl ?_
  refine L_v (opv_loadN (vs := [.int .i64 x0.id, .bool x0.more, .int .i64 x0.off, .int .i64 x0.ttl, .int .i64 x0.proto, .int .u8 x0.s0, .int .u8 x0.s1, .int .u8 x0.s2, .int .u8 x0.s3, .int .u8 x0.d0, .int .u8 x0.d1, .int .u8 x0.d2, .int .u8 x0.d3, .string x0.data]) rfl rfl (fun j u hj => Rd.of_take (S := R0) (hR.rd b o rfl 0 x0 j u hx0 hj))) rfl ?_
  refine L_x rfl (opx_call0 (bare_spec x0) rfl rfl rfl) (fun _ _ => ?_)
  refine L_emp ?_
  refine L_x rfl (opx_alloc rfl) (fun b4 _ => ?_)
  refine L_x rfl (opx_store rfl rfl rfl (by simp [Value.oneCell'])) (fun _ _ => ?_)
  refine L_nil ?_
  refine K_then ?_
  refine J_seq ?_
  refine J_seq ?_
  refine J_region ?_
  refine L_v (opv_move rfl) rfl ?_
  refine L_v (opv_makeFunc rfl rfl) rfl ?_
  refine L_x rfl (opx_call0 (ContainsPk_spec R0 (some (ad b o)) c b4 L x0 hR (by omega)) rfl rfl rfl) (fun _ _ => ?_)
  rw [decide_eq_true h]
  refine L_nil ?_
  refine K_then ?_
  refine J_cond_true rfl ?_
  refine J_seq ?_
  refine J_region ?_
  refine L_v (opv_build rfl) rfl ?_
  refine L_x rfl (opx_store rfl rfl rfl (by simp [Value.oneCell'])) (fun _ _ => ?_)
  refine L_v (opv_assign rfl) rfl ?_
  refine L_nil ?_
  refine K_then ?_
  refine J_ret ?_
  refine K_then_ret ?_
  have e := join_odd hx0 h
  exact K_ret2c rfl rfl rfl rfl () trivial (by rw [e]; rfl) Ent.take

set_option maxHeartbeats 800000 in
theorem Join_rest (R0 : HProp) (A : Option Addr) (c : Nat) (L : List Pk) (hR : RdS R0 encPk 14 A L) (hn : L.length ≤ 1000) (hz : ∀ x ∈ L, x.data.size ≤ 20000) (x0 : Pk) (hx0 : L[0]? = some x0) (h : ¬ odd L x0 < L.length) : FSpec Try.prog 20 #[.slice A L.length c] (R0) (fun _ : Unit => True) (fun _ => .tuple #[.agg (encPk (joinC L).1).toArray, .int .i64 (joinC L).2]) (fun _ => R0) := by
  have hlen := glt hx0
  obtain ⟨b, o, rfl⟩ := hR.nonnil 0 hlen
  refine FSpec.enter' Try.func20 rfl Try.ntmps20 rfl fun σ F => ?_
  refine J_seq ?_
  refine J_region ?_
  refine L_x rfl (opx_alloc rfl) (fun b2 _ => ?_)
  refine L_v (opv_assign rfl) rfl ?_
  refine L_nil ?_
  refine K_then ?_
  refine J_seq ?_
  refine J_seq ?_
  refine J_region ?_
  refine L_v (opv_move rfl) rfl ?_
  first
    | refine L_v (opv_lenL rfl) rfl ?_
    | refine L_v (opv_lenS rfl) rfl ?_
  refine L_v ((opv_eql rfl rfl).bool_f (by omega)) rfl ?_
  refine L_nil ?_
  refine K_then ?_
  refine J_cond_false rfl ?_
  refine J_skip ?_
  refine K_then ?_
  refine J_seq ?_
  refine J_region ?_
  refine L_v (opv_move rfl) rfl ?_
  refine L_v (opv_indexAddr rfl rfl (by omega)) rfl ?_
  refine L_v (opv_loadN (vs := [.int .i64 x0.id, .bool x0.more, .int .i64 x0.off, .int .i64 x0.ttl, .int .i64 x0.proto, .int .u8 x0.s0, .int .u8 x0.s1, .int .u8 x0.s2, .int .u8 x0.s3, .int .u8 x0.d0, .int .u8 x0.d1, .int .u8 x0.d2, .int .u8 x0.d3, .string x0.data]) rfl rfl (fun j u hj => Rd.of_take (S := R0) (hR.rd b o rfl 0 x0 j u hx0 hj))) rfl ?_
  refine L_x rfl (opx_call0 (bare_spec x0) rfl rfl rfl) (fun _ _ => ?_)
  refine L_emp ?_
  refine L_x rfl (opx_alloc rfl) (fun b4 _ => ?_)
  refine L_x rfl (opx_store rfl rfl rfl (by simp [Value.oneCell'])) (fun _ _ => ?_)
  refine L_nil ?_
  refine K_then ?_
  refine J_seq ?_
  refine J_seq ?_
  refine J_region ?_
  refine L_v (opv_move rfl) rfl ?_
  refine L_v (opv_makeFunc rfl rfl) rfl ?_
  refine L_x rfl (opx_call0 (ContainsPk_spec R0 (some (ad b o)) c b4 L x0 hR (by omega)) rfl rfl rfl) (fun _ _ => ?_)
  rw [decide_eq_false h]
  refine L_nil ?_
  refine K_then ?_
  refine J_cond_false rfl ?_
  refine J_skip ?_
  refine K_then ?_
  refine J_seq ?_
  refine J_region ?_
  refine L_x rfl (opx_alloc rfl) (fun b5 _ => ?_)
  refine L_nil ?_
  refine K_then ?_
  refine J_seq ?_
  refine J_seq ?_
  refine J_imp (sep (OwnZ 5 (none, 0) ByteArray.empty) (_)) (Ent.trans (Ent.of (emp_sep _).symm) ((OwnZ.nil 5).frame _)) ?_
  refine J_region ?_
  refine L_v (opv_move rfl) rfl ?_
  first
    | refine L_v (opv_lenL rfl) rfl ?_
    | refine L_v (opv_lenS rfl) rfl ?_
  refine L_v (opv_move rfl) rfl ?_
  refine L_nil ?_
  refine K_then ?_
  refine J_block ?_
  refine J_loop (X := Nat × ByteArray × Option Addr × (Option Addr × Nat)) (fun z => [(0, .slice (some (ad b o)) L.length c), (2, .pointer (some (ad b2 0))), (4, .pointer (some (ad b4 0))), (5, .pointer (some (ad b5 0))), (21, .slice (some (ad b o)) L.length c), (22, .int .i64 L.length), (23, .int .i64 z.1)]) (fun z => (sep (cel b5 [.pointer z.2.2.1, .slice z.2.2.2.1 (z.2.1).size z.2.2.2.2] 88) (sep (OwnZ 5 z.2.2.2 z.2.1) (sep (cel b2 [.int .i64 0, .bool false, .int .i64 0, .int .i64 0, .int .i64 0, .int .u8 0, .int .u8 0, .int .u8 0, .int .u8 0, .int .u8 0, .int .u8 0, .int .u8 0, .int .u8 0, .string ⟨#[]⟩] 32) (sep (cel b4 [.int .i64 x0.id, .bool false, .int .i64 0, .int .i64 x0.ttl, .int .i64 x0.proto, .int .u8 x0.s0, .int .u8 x0.s1, .int .u8 x0.s2, .int .u8 x0.s3, .int .u8 x0.d0, .int .u8 x0.d1, .int .u8 x0.d2, .int .u8 x0.d3, .string ⟨#[]⟩] 32) (sep (R0) (F))))))) (fun z => z.1 ≤ L.length ∧ jrun L ByteArray.empty = jrun (L.drop z.1) z.2.1 ∧ (z.2.2.1 = none ∨ z.2.2.1 = some (ad b5 0)) ∧ z.2.1.size ≤ z.1 * 20000) (fun z => L.length - z.1) ((0, ByteArray.empty, none, (none, 0))) ⟨Nat.zero_le _, rfl, .inl rfl, Nat.zero_le _⟩ ⟨rfl, rfl, rfl, rfl, rfl, rfl, rfl, trivial⟩ (Ent.take (Q := (sep (cel b5 [.pointer none, .slice none 0 0] 88) (sep (OwnZ 5 ((none, 0) : Option Addr × Nat) ByteArray.empty) (sep (cel b2 [.int .i64 0, .bool false, .int .i64 0, .int .i64 0, .int .i64 0, .int .u8 0, .int .u8 0, .int .u8 0, .int .u8 0, .int .u8 0, .int .u8 0, .int .u8 0, .int .u8 0, .string ⟨#[]⟩] 32) (sep (cel b4 [.int .i64 x0.id, .bool false, .int .i64 0, .int .i64 x0.ttl, .int .i64 x0.proto, .int .u8 x0.s0, .int .u8 x0.s1, .int .u8 x0.s2, .int .u8 x0.s3, .int .u8 x0.d0, .int .u8 x0.d1, .int .u8 x0.d2, .int .u8 x0.d3, .string ⟨#[]⟩] 32) (sep (R0) (F)))))))) (fun z hz2 => ?_)
  obtain ⟨zk, zj, zq, zs⟩ := hz2
  refine J_seq ?_
  refine J_region ?_
  refine L_v (opv_lss rfl rfl) rfl ?_
  refine L_nil ?_
  refine K_then ?_
  refine J_seq ?_
  refine J_cond rfl (fun h1 => ?_) (fun h1 => ?_)
  · have hkl : z.1 < L.length := by omega
    obtain ⟨x, hx⟩ : ∃ x, L[z.1]? = some x := ⟨_, List.getElem?_eq_getElem hkl⟩
    have hxs := hz x (List.mem_of_getElem? hx)
    refine J_skip ?_
    refine K_then ?_
    refine J_seq ?_
    refine J_block ?_
    refine J_seq ?_
    refine J_region ?_
    refine L_v (opv_move rfl) rfl ?_
    first
      | refine L_v (opv_indexAddr rfl rfl (by omega)) rfl ?_
      | refine L_v (opv_indexAddrA rfl rfl (by omega)) rfl ?_
    refine L_v (opv_loadN (vs := [.int .i64 x.id, .bool x.more, .int .i64 x.off, .int .i64 x.ttl, .int .i64 x.proto, .int .u8 x.s0, .int .u8 x.s1, .int .u8 x.s2, .int .u8 x.s3, .int .u8 x.d0, .int .u8 x.d1, .int .u8 x.d2, .int .u8 x.d3, .string x.data]) rfl rfl (fun j u hj => Rd.of_take (S := R0) (hR.rd b o rfl z.1 x j u hx hj))) rfl ?_
    refine L_x rfl (opx_alloc rfl) (fun b7 _ => ?_)
    refine L_v (opv_assign rfl) rfl ?_
    refine L_x rfl (opx_store rfl rfl rfl (by simp [Value.oneCell'])) (fun _ _ => ?_)
    refine L_nil ?_
    refine K_then ?_
    refine J_seq ?_
    refine J_seq ?_
    refine J_quiet Try.mixed (by kernel_rfl) ?_
    refine Q_v (opv_loadS rfl) rfl ?_
    refine Q_call (BLen b5 z.2.2.1 z.2.2.2.1 z.2.1.size z.2.2.2.2) rfl rfl (fun _ _ => rfl) (fun _ _ => Ent.refl _) rfl ?_
    refine Q_v (opv_move rfl) rfl ?_
    first
      | refine Q_v (opv_add64 rfl rfl (by omega)) rfl ?_
      | refine Q_v (opv_addS rfl rfl (by omega)) rfl ?_
      | refine Q_v (opv_add rfl rfl) rfl ?_
    refine Q_v (opv_move rfl) rfl ?_
    first
      | refine Q_v (opv_lenL rfl) rfl ?_
      | refine Q_v (opv_lenS rfl) rfl ?_
    refine Q_v ((opv_eql rfl rfl).as (v' := .bool (L.drop (z.1 + 1)).isEmpty) (congrArg Value.bool (last_x hkl))) rfl ?_
    refine Q_call (fits_spec x z.2.1.size (L.drop (z.1 + 1)).isEmpty (by omega)) rfl rfl (fun _ _ => rfl) (fun _ _ => Ent.refl _) rfl ?_
    refine Q_v (opv_assign rfl) rfl ?_
    refine QL_nil ?_
    refine K_then ?_
    refine J_seq ?_
    refine J_region ?_
    refine L_v (opv_move rfl) rfl ?_
    first
      | refine L_v (opv_neq rfl rfl) rfl ?_
      | refine L_v (opv_neqS rfl rfl) rfl ?_
      | refine L_v (opv_neqNil rfl rfl) rfl ?_
      | refine L_v (opv_neqB rfl rfl) rfl ?_
    refine L_nil ?_
    refine K_then ?_
    refine J_cond rfl (fun h2 => ?_) (fun h2 => ?_)
    · refine J_seq ?_
      refine J_region ?_
      refine L_v (opv_build rfl) rfl ?_
      refine L_v (opv_move rfl) rfl ?_
      refine L_x rfl (opx_store rfl rfl rfl (by simp [Value.oneCell'])) (fun _ _ => ?_)
      refine L_v (opv_assign rfl) rfl ?_
      refine L_nil ?_
      refine K_then ?_
      refine J_ret ?_
      refine K_then_ret ?_
      refine K_block_ret ?_
      refine K_then_ret ?_
      refine K_then_ret ?_
      refine K_block_ret ?_
      refine K_then_ret ?_
      have e0 : jrun L ByteArray.empty = (fitC x z.2.1.size (L.drop (z.1 + 1)).isEmpty, z.2.1) := by rw [zj, drop_x hx]; exact jrun_bad h2
      have e : joinC L = (pkz, fitC x z.2.1.size (L.drop (z.1 + 1)).isEmpty) := by rw [join_bad hx0 h (by rw [e0]; exact h2), e0]
      exact K_ret2c rfl rfl rfl rfl () trivial (by rw [e]; rfl) Ent.take
    · refine J_skip ?_
      refine K_then ?_
      refine J_region ?_
      first
        | refine L_v (opv_fieldAddr0 rfl) rfl ?_
        | refine L_v (opv_fieldAddr rfl) rfl ?_
      refine L_v (opv_load rfl (Rd.look rfl)) rfl ?_
      refine L_x rfl (opx_call0 (BWrite b5 z.2.2.1 z.2.2.2 z.2.1 x.data zq (by omega)) rfl rfl rfl) (fun u' _ => ?_)
      refine L_nil ?_
      refine K_block ?_
      refine K_then ?_
      refine J_region ?_
      first
        | refine L_v (opv_add64 rfl rfl (by omega)) rfl ?_
        | refine L_v (opv_addS rfl rfl (by omega)) rfl ?_
        | refine L_v (opv_add rfl rfl) rfl ?_
      refine L_v (opv_move rfl) rfl ?_
      refine L_nil ?_
      exact K_loop ((z.1 + 1, z.2.1 ++ x.data, some (ad b5 0), u')) ⟨by dsimp only; omega, by dsimp only; rw [zj, drop_x hx]; exact jrun_ok (Classical.not_not.1 h2), .inr rfl, by dsimp only; rw [ByteArray.size_append]; omega⟩ (by dsimp only; omega) ⟨rfl, rfl, rfl, rfl, rfl, rfl, rfl, trivial⟩ Ent.take
  · obtain ⟨xl, hxl⟩ : ∃ x, L[((L.length : Int) - 1).toNat]? = some x := ⟨_, List.getElem?_eq_getElem (by omega)⟩
    refine J_exit ?_
    refine K_then_exit ?_
    refine K_then_exit ?_
    refine K_block_here ?_
    refine K_then ?_
    refine J_seq ?_
    refine J_block ?_
    refine J_seq ?_
    refine J_region ?_
    refine L_v (opv_move rfl) rfl ?_
    refine L_v (opv_move rfl) rfl ?_
    first
      | refine L_v (opv_lenL rfl) rfl ?_
      | refine L_v (opv_lenS rfl) rfl ?_
    first
      | refine L_v (opv_sub64 rfl rfl (by omega)) rfl ?_
      | refine L_v (opv_sub rfl rfl) rfl ?_
    first
      | refine L_v (opv_indexAddr rfl rfl (by omega)) rfl ?_
      | refine L_v (opv_indexAddrA rfl rfl (by omega)) rfl ?_
    first
      | refine L_v (opv_fieldAddr0 rfl) rfl ?_
      | refine L_v (opv_fieldAddr rfl) rfl ?_
    refine L_v ((opv_load rfl (Rd.of_take (S := R0) (hR.rd b o rfl _ xl 1 _ hxl rfl))).as (v' := .bool (decide (xl.more = true))) (by simp)) rfl ?_
    refine L_v (opv_assign rfl) rfl ?_
    refine L_nil ?_
    refine K_then ?_
    refine J_cond rfl (fun h3 => ?_) (fun h3 => ?_)
    · refine J_seq ?_
      refine J_region ?_
      refine L_v (opv_build rfl) rfl ?_
      refine L_x rfl (opx_store rfl rfl rfl (by simp [Value.oneCell'])) (fun _ _ => ?_)
      refine L_v (opv_assign rfl) rfl ?_
      refine L_nil ?_
      refine K_then ?_
      refine J_ret ?_
      refine K_block_ret ?_
      refine K_then_ret ?_
      have hk : z.1 = L.length := by omega
      have e0 : jrun L ByteArray.empty = (0, z.2.1) := by rw [zj, hk, List.drop_length]; rfl
      have e : joinC L = (pkz, 10) := join_short hx0 h (by rw [e0]) hxl h3
      exact K_ret2c rfl rfl rfl rfl () trivial (by rw [e]; rfl) Ent.take
    · refine J_seq ?_
      refine J_region ?_
      refine L_x rfl (opx_call0 (BLen b5 z.2.2.1 z.2.2.2.1 z.2.1.size z.2.2.2.2) rfl rfl rfl) (fun _ _ => ?_)
      refine L_v (opv_gtr rfl rfl) rfl ?_
      refine L_v (opv_assign rfl) rfl ?_
      refine L_nil ?_
      refine K_then ?_
      refine J_cond rfl (fun h4 => ?_) (fun h4 => ?_)
      · refine J_seq ?_
        refine J_region ?_
        refine L_v (opv_build rfl) rfl ?_
        refine L_x rfl (opx_store rfl rfl rfl (by simp [Value.oneCell'])) (fun _ _ => ?_)
        refine L_v (opv_assign rfl) rfl ?_
        refine L_nil ?_
        refine K_then ?_
        refine J_ret ?_
        refine K_block_ret ?_
        refine K_then_ret ?_
        have hk : z.1 = L.length := by omega
        have e0 : jrun L ByteArray.empty = (0, z.2.1) := by rw [zj, hk, List.drop_length]; rfl
        have e : joinC L = (pkz, 11) := join_long hx0 h (by rw [e0]) hxl h3 (by rw [e0]; dsimp only; omega)
        exact K_ret2c rfl rfl rfl rfl () trivial (by rw [e]; rfl) Ent.take
      · refine J_skip ?_
        refine K_block ?_
        refine K_then ?_
        refine J_seq ?_
        refine J_region ?_
        refine L_x rfl (opx_call0 (BString b5 z.2.2.1 z.2.2.2 z.2.1) rfl rfl rfl) (fun _ _ => ?_)
        first
          | refine L_v (opv_fieldAddr0 rfl) rfl ?_
          | refine L_v (opv_fieldAddr rfl) rfl ?_
        refine L_x rfl (opx_store rfl rfl rfl (by simp [Value.oneCell'])) (fun _ _ => ?_)
        refine L_nil ?_
        refine K_then ?_
        refine J_seq ?_
        refine J_region ?_
        refine L_v (opv_loadS rfl) rfl ?_
        refine L_x rfl (opx_store rfl rfl rfl (by simp [Value.oneCell'])) (fun _ _ => ?_)
        refine L_v (opv_assign rfl) rfl ?_
        refine L_nil ?_
        refine K_then ?_
        refine J_ret ?_
        have hk : z.1 = L.length := by omega
        have e0 : jrun L ByteArray.empty = (0, z.2.1) := by rw [zj, hk, List.drop_length]; rfl
        have e : joinC L = ({ x0 with more := false, off := 0, data := z.2.1 }, 0) := by rw [join_ok hx0 h (by rw [e0]) hxl h3 (by rw [e0]; dsimp only; omega), e0]
        exact K_ret2c rfl rfl rfl rfl () trivial (by rw [e]; rfl) Ent.take

end Go.Proofs.Ytjpbpfihacfndaa
