/- The law FragSplits of the package pitotlaw08 holds for every input: which parts a packet becomes, or why none. No condition. -/
import Derived.Test.YtjpbpfihacfndaaFb
import Derived.Test.YtjpbpfihacfndaaH
namespace Go.Proofs.Ytjpbpfihacfndaa
open Go.SLA
set_option maxRecDepth 100000
set_option linter.unusedVariables false
set_option linter.unusedSimpArgs false
attribute [local irreducible] J L K QL Rg FSpec OpV OpX Rd Back

def okA (p : Pk) : Prop := (∀ v ∈ [p.s0, p.s1, p.s2, p.s3], 0 ≤ v ∧ v < 256) ∧ (∀ v ∈ [p.d0, p.d1, p.d2, p.d3], 0 ≤ v ∧ v < 256)
theorem wf8 {n : Int} (h : (Lit.int .u8 n).wf = true) : 0 ≤ n ∧ n < 256 := by
  have : 0 ≤ n ∧ n ≤ 255 := by simpa [Lit.wf, IntKind.min, IntKind.max, IntKind.signed, IntKind.bits] using h
  omega
theorem okPk.a {p : Pk} (h : okPk p) : okA p := by
  obtain ⟨_, _, _, _, h0, h1, h2, h3, g0, g1, g2, g3, _⟩ := h
  constructor
  · intro v hv
    simp only [List.mem_cons, List.not_mem_nil, or_false] at hv
    rcases hv with rfl | rfl | rfl | rfl <;> exact wf8 (by assumption)
  · intro v hv
    simp only [List.mem_cons, List.not_mem_nil, or_false] at hv
    rcases hv with rfl | rfl | rfl | rfl <;> exact wf8 (by assumption)
theorem splitL_ind {p : Pk} {w r : Nat} {M : Nat → List Pk → Prop} (h1 : ∀ a, ¬ a + w < p.data.size → M a [prt p a p.data.size]) (h2 : ∀ a l, a + w < p.data.size → M (a + r) l → M a (prt p a (a + r) :: l)) (hr : 0 < r) : ∀ a, M a (splitL p w r a) := by
  intro a
  generalize hn : p.data.size - a = n
  induction n using Nat.strongRecOn generalizing a with
  | _ n ih =>
    by_cases h : a + w < p.data.size
    · rw [splitL_a h hr]
      exact h2 a _ h (ih _ (by omega) (a + r) rfl)
    · rw [splitL_b h]
      exact h1 a h
theorem splitL_ok {p : Pk} {w r : Nat} (hp : okA p) (hr : 0 < r) (a : Nat) : ∀ x ∈ splitL p w r a, okA x :=
  splitL_ind (M := fun _ l => ∀ x ∈ l, okA x) (fun a _ x hx => by rw [List.mem_singleton.1 hx]; exact hp) (fun a l _ h x hx => by
    rcases List.mem_cons.1 hx with rfl | hx
    · exact hp
    · exact h x hx) hr a
theorem splitL_len {p : Pk} {w r : Nat} (hr : 0 < r) (hw : r ≤ w) (a : Nat) (ha : a ≤ p.data.size) : (splitL p w r a).length + a ≤ p.data.size + 1 :=
  splitL_ind (p := p) (w := w) (r := r) (M := fun a l => a ≤ p.data.size → l.length + a ≤ p.data.size + 1) (fun a _ h => by simp only [List.length_cons, List.length_nil]; omega) (fun a l h ih h2 => by have := ih (by omega); simp only [List.length_cons]; omega) hr a ha
def partsC (p : Pk) (m : Int) : List Pk := if codeS p m = 0 then splitL p (m.toNat - 39) (roomN m.toNat) 0 else []
theorem partsC_ok {p : Pk} {m : Int} (hp : okA p) : (∀ x ∈ partsC p m, okA x) ∧ (partsC p m).length ≤ 70000 := by
  unfold partsC
  split
  · rename_i h
    obtain ⟨h1, _, _, h4⟩ := codeS_ok h
    unfold sizeB at h1
    have hr := roomN_ge (m := m.toNat) (by omega)
    have := splitL_len (p := p) (w := m.toNat - 39) (r := roomN m.toNat) (by omega) (by omega) 0 (by omega)
    exact ⟨splitL_ok hp (by omega) 0, by omega⟩
  · exact ⟨fun x hx => (by cases hx), Nat.zero_le _⟩
theorem Split_all (p : Pk) (m : Int) : FSpec Try.prog 24 #[.agg [.int .i64 p.id, .bool p.more, .int .i64 p.off, .int .i64 p.ttl, .int .i64 p.proto, .int .u8 p.s0, .int .u8 p.s1, .int .u8 p.s2, .int .u8 p.s3, .int .u8 p.d0, .int .u8 p.d1, .int .u8 p.d2, .int .u8 p.d3, .string p.data].toArray, .int .i64 m] emp (fun _ : Option Addr × Nat => True) (fun r => .tuple #[.slice r.1 (partsC p m).length r.2, .int .i64 (codeS p m)]) (fun r => Own 32 14 (.slice r.1 (partsC p m).length r.2) (partsC p m).length ((partsC p m).flatMap encPk)) := by
  have nil : ∀ c : Int, c ≠ 0 → codeS p m = c → FSpec Try.prog 24 #[.agg [.int .i64 p.id, .bool p.more, .int .i64 p.off, .int .i64 p.ttl, .int .i64 p.proto, .int .u8 p.s0, .int .u8 p.s1, .int .u8 p.s2, .int .u8 p.s3, .int .u8 p.d0, .int .u8 p.d1, .int .u8 p.d2, .int .u8 p.d3, .string p.data].toArray, .int .i64 m] emp (fun _ : Unit => True) (fun _ => .tuple #[.slice none 0 0, .int .i64 c]) (fun _ => emp) → FSpec Try.prog 24 #[.agg [.int .i64 p.id, .bool p.more, .int .i64 p.off, .int .i64 p.ttl, .int .i64 p.proto, .int .u8 p.s0, .int .u8 p.s1, .int .u8 p.s2, .int .u8 p.s3, .int .u8 p.d0, .int .u8 p.d1, .int .u8 p.d2, .int .u8 p.d3, .string p.data].toArray, .int .i64 m] emp (fun _ : Option Addr × Nat => True) (fun r => .tuple #[.slice r.1 (partsC p m).length r.2, .int .i64 (codeS p m)]) (fun r => Own 32 14 (.slice r.1 (partsC p m).length r.2) (partsC p m).length ((partsC p m).flatMap encPk)) := fun c hc e h => by
    have : partsC p m = [] := by unfold partsC; rw [if_neg (by rw [e]; exact hc)]
    rw [this, e]
    exact h.conseq (Ent.refl _) fun _ _ => ⟨(none, 0), trivial, rfl, Own.nil _ 14⟩
  by_cases h : sizeB m
  · obtain ⟨k, rfl⟩ : ∃ k : Nat, m = k := ⟨m.toNat, by unfold sizeB at h; omega⟩
    have h' : 64 ≤ k ∧ k ≤ 1518 := by unfold sizeB at h; omega
    by_cases hf : p.more = true ∨ p.off ≠ 0
    · exact nil 15 (by decide) (by unfold codeS; rw [if_neg (fun n => n h), if_pos hf]) (Split_field p k h' hf)
    · have hm : p.more = false := by cases hm : p.more with
        | false => rfl
        | true => exact absurd (.inl hm) hf
      have ho : p.off = 0 := Classical.not_not.1 fun n => hf (.inr n)
      by_cases hl : 65515 < p.data.size
      · exact nil 11 (by decide) (by unfold codeS; rw [if_neg (fun n => n h), if_neg hf, if_pos hl]) (Split_long p k h' hm ho hl)
      · have e : codeS p k = 0 := by unfold codeS; rw [if_neg (fun n => n h), if_neg hf, if_neg hl]
        have e2 : partsC p k = splitL p (k - 39) (roomN k) 0 := by unfold partsC; rw [if_pos e]; rfl
        rw [e, e2]
        exact Split_ok p k h' hm ho (by omega)
  · exact nil 1 (by decide) (by unfold codeS; rw [if_pos h]) (Split_size p m h)
theorem RSplit_all (p : Pk) (m : Int) : FSpec Try.prog 25 #[.agg [.int .i64 p.id, .bool p.more, .int .i64 p.off, .int .i64 p.ttl, .int .i64 p.proto, .string (bytesL [p.s0, p.s1, p.s2, p.s3]), .string (bytesL [p.d0, p.d1, p.d2, p.d3]), .string p.data].toArray, .int .i64 m] emp (fun _ : Option Addr × Nat => True) (fun r => .tuple #[.slice r.1 (partsC p m).length r.2, .int .i64 (codeS p m)]) (fun r => Own 36 8 (.slice r.1 (partsC p m).length r.2) (partsC p m).length ((partsC p m).flatMap encR)) := by
  have nil : ∀ c : Int, c ≠ 0 → codeS p m = c → FSpec Try.prog 25 #[.agg [.int .i64 p.id, .bool p.more, .int .i64 p.off, .int .i64 p.ttl, .int .i64 p.proto, .string (bytesL [p.s0, p.s1, p.s2, p.s3]), .string (bytesL [p.d0, p.d1, p.d2, p.d3]), .string p.data].toArray, .int .i64 m] emp (fun _ : Unit => True) (fun _ => .tuple #[.slice none 0 0, .int .i64 c]) (fun _ => emp) → FSpec Try.prog 25 #[.agg [.int .i64 p.id, .bool p.more, .int .i64 p.off, .int .i64 p.ttl, .int .i64 p.proto, .string (bytesL [p.s0, p.s1, p.s2, p.s3]), .string (bytesL [p.d0, p.d1, p.d2, p.d3]), .string p.data].toArray, .int .i64 m] emp (fun _ : Option Addr × Nat => True) (fun r => .tuple #[.slice r.1 (partsC p m).length r.2, .int .i64 (codeS p m)]) (fun r => Own 36 8 (.slice r.1 (partsC p m).length r.2) (partsC p m).length ((partsC p m).flatMap encR)) := fun c hc e h => by
    have : partsC p m = [] := by unfold partsC; rw [if_neg (by rw [e]; exact hc)]
    rw [this, e]
    exact h.conseq (Ent.refl _) fun _ _ => ⟨(none, 0), trivial, rfl, Own.nil _ 8⟩
  by_cases h : sizeB m
  · obtain ⟨k, rfl⟩ : ∃ k : Nat, m = k := ⟨m.toNat, by unfold sizeB at h; omega⟩
    have h' : 64 ≤ k ∧ k ≤ 1518 := by unfold sizeB at h; omega
    by_cases hf : p.more = true ∨ p.off ≠ 0
    · exact nil 15 (by decide) (by unfold codeS; rw [if_neg (fun n => n h), if_pos hf]) (RSplit_field p k h' hf)
    · have hm : p.more = false := by cases hm : p.more with
        | false => rfl
        | true => exact absurd (.inl hm) hf
      have ho : p.off = 0 := Classical.not_not.1 fun n => hf (.inr n)
      by_cases hl : 65515 < p.data.size
      · exact nil 11 (by decide) (by unfold codeS; rw [if_neg (fun n => n h), if_neg hf, if_pos hl]) (RSplit_long p k h' hm ho hl)
      · have e : codeS p k = 0 := by unfold codeS; rw [if_neg (fun n => n h), if_neg hf, if_neg hl]
        have e2 : partsC p k = splitL p (k - 39) (roomN k) 0 := by unfold partsC; rw [if_pos e]; rfl
        rw [e, e2]
        exact RSplit_ok p k h' hm ho (by omega)
  · exact nil 1 (by decide) (by unfold codeS; rw [if_pos h]) (RSplit_size p m h)
attribute [local irreducible] partsC codeS
theorem take_one {L : List Pk} {k : Nat} {x : Pk} (h : L[k]? = some x) : L.take (k + 1) = L.take k ++ [x] := by
  have hk : k < L.length := by
    rcases Nat.lt_or_ge k L.length with h' | h'
    · exact h'
    · rw [List.getElem?_eq_none h'] at h; cases h
  rw [List.getElem?_eq_getElem hk] at h
  simp only [Option.some.injEq] at h
  rw [List.take_succ_eq_append_getElem hk, h]

theorem ip05_spec (w0 w1 w2 w3 : Int) (h : ∀ v ∈ [w0, w1, w2, w3], 0 ≤ v ∧ v < 256) : FSpec Try.prog 48 #[.agg #[.int .u8 w0, .int .u8 w1, .int .u8 w2, .int .u8 w3]] (emp) (fun _ : Unit => True) (fun _ => .string (bytesL [w0, w1, w2, w3])) (fun _ => emp) := by
  refine FSpec.enter' Try.func48 rfl Try.ntmps48 rfl fun σ F => ?_
  refine J_emp ?_
  refine J_seq ?_
  refine J_region ?_
  refine L_x rfl (opx_box (l := [.int .u8 w0, .int .u8 w1, .int .u8 w2, .int .u8 w3]) rfl rfl) (fun b1 _ => ?_)
  refine L_v (opv_assign rfl) rfl ?_
  refine L_nil ?_
  refine K_then ?_
  refine J_seq ?_
  refine J_region ?_
  first
    | refine L_v (opv_indexAddr rfl rfl (by omega)) rfl ?_
    | refine L_v (opv_indexAddrA rfl rfl (by omega)) rfl ?_
  refine L_v (opv_load rfl (Rd.look rfl)) rfl ?_
  first
    | refine L_v (opv_indexAddr rfl rfl (by omega)) rfl ?_
    | refine L_v (opv_indexAddrA rfl rfl (by omega)) rfl ?_
  refine L_v (opv_load rfl (Rd.look rfl)) rfl ?_
  first
    | refine L_v (opv_indexAddr rfl rfl (by omega)) rfl ?_
    | refine L_v (opv_indexAddrA rfl rfl (by omega)) rfl ?_
  refine L_v (opv_load rfl (Rd.look rfl)) rfl ?_
  first
    | refine L_v (opv_indexAddr rfl rfl (by omega)) rfl ?_
    | refine L_v (opv_indexAddrA rfl rfl (by omega)) rfl ?_
  refine L_v (opv_load rfl (Rd.look rfl)) rfl ?_
  refine L_x rfl (opx_buildSliceL rfl rfl rfl (by omega) (by simp [Value.cells]) rfl) (fun b11 _ => ?_)
  refine L_v (opv_b2sL [w0, w1, w2, w3] rfl rfl rfl h) rfl ?_
  refine L_v (opv_assign rfl) rfl ?_
  refine L_nil ?_
  refine K_then ?_
  refine J_ret ?_
  exact K_ret1 rfl rfl () trivial (rfl) Ent.take

theorem Plain05_f (p : Pk) (hp : okA p) : FSpec Try.prog 23 #[.agg [.int .i64 p.id, .bool p.more, .int .i64 p.off, .int .i64 p.ttl, .int .i64 p.proto, .int .u8 p.s0, .int .u8 p.s1, .int .u8 p.s2, .int .u8 p.s3, .int .u8 p.d0, .int .u8 p.d1, .int .u8 p.d2, .int .u8 p.d3, .string p.data].toArray, .bool false] (emp) (fun _ : Unit => True) (fun _ => .agg (encR p).toArray) (fun _ => emp) := by
  refine FSpec.enter' Try.func23 rfl Try.ntmps23 rfl fun σ F => ?_
  refine J_emp ?_
  refine J_seq ?_
  refine J_region ?_
  refine L_x rfl (opx_box (l := [.int .i64 p.id, .bool p.more, .int .i64 p.off, .int .i64 p.ttl, .int .i64 p.proto, .int .u8 p.s0, .int .u8 p.s1, .int .u8 p.s2, .int .u8 p.s3, .int .u8 p.d0, .int .u8 p.d1, .int .u8 p.d2, .int .u8 p.d3, .string p.data]) rfl rfl) (fun b2 _ => ?_)
  refine L_x rfl (opx_alloc rfl) (fun b4 _ => ?_)
  refine L_nil ?_
  refine K_then ?_
  refine J_seq ?_
  refine J_steps (cel b2 [.int .i64 p.id, .bool p.more, .int .i64 p.off, .int .i64 p.ttl, .int .i64 p.proto, .int .u8 p.s0, .int .u8 p.s1, .int .u8 p.s2, .int .u8 p.s3, .int .u8 p.d0, .int .u8 p.d1, .int .u8 p.d2, .int .u8 p.d3, .string p.data] 32) (cel b2 [.int .i64 p.id, .bool p.more, .int .i64 p.off, .int .i64 p.ttl, .int .i64 p.proto, .int .u8 p.s0, .int .u8 p.s1, .int .u8 p.s2, .int .u8 p.s3, .int .u8 p.d0, .int .u8 p.d1, .int .u8 p.d2, .int .u8 p.d3, .string p.data] 32) [] Try.mixed ?_
  first
    | refine R_pure 0 rfl (by kernel_rfl) (by kernel_rfl) (by kernel_rfl) (by kernel_rfl) (.inr ⟨_, Take.eq (A := cel b2 [.int .i64 p.id, .bool p.more, .int .i64 p.off, .int .i64 p.ttl, .int .i64 p.proto, .int .u8 p.s0, .int .u8 p.s1, .int .u8 p.s2, .int .u8 p.s3, .int .u8 p.d0, .int .u8 p.d1, .int .u8 p.d2, .int .u8 p.d3, .string p.data] 32)⟩) (opv_fieldAddr0 rfl) rfl ?_
    | refine R_pure 0 rfl (by kernel_rfl) (by kernel_rfl) (by kernel_rfl) (by kernel_rfl) (.inr ⟨_, Take.eq (A := cel b2 [.int .i64 p.id, .bool p.more, .int .i64 p.off, .int .i64 p.ttl, .int .i64 p.proto, .int .u8 p.s0, .int .u8 p.s1, .int .u8 p.s2, .int .u8 p.s3, .int .u8 p.d0, .int .u8 p.d1, .int .u8 p.d2, .int .u8 p.d3, .string p.data] 32)⟩) (opv_fieldAddr rfl) rfl ?_
  refine R_take 1 rfl (by kernel_rfl) (by kernel_rfl) (by kernel_rfl) (by kernel_rfl) (by kernel_rfl) (opv_load rfl (Rd.look rfl)) rfl ?_
  first
    | refine R_pure 2 rfl (by kernel_rfl) (by kernel_rfl) (by kernel_rfl) (by kernel_rfl) (.inr ⟨_, Take.eq (A := cel b2 [.int .i64 p.id, .bool p.more, .int .i64 p.off, .int .i64 p.ttl, .int .i64 p.proto, .int .u8 p.s0, .int .u8 p.s1, .int .u8 p.s2, .int .u8 p.s3, .int .u8 p.d0, .int .u8 p.d1, .int .u8 p.d2, .int .u8 p.d3, .string p.data] 32)⟩) (opv_fieldAddr0 rfl) rfl ?_
    | refine R_pure 2 rfl (by kernel_rfl) (by kernel_rfl) (by kernel_rfl) (by kernel_rfl) (.inr ⟨_, Take.eq (A := cel b2 [.int .i64 p.id, .bool p.more, .int .i64 p.off, .int .i64 p.ttl, .int .i64 p.proto, .int .u8 p.s0, .int .u8 p.s1, .int .u8 p.s2, .int .u8 p.s3, .int .u8 p.d0, .int .u8 p.d1, .int .u8 p.d2, .int .u8 p.d3, .string p.data] 32)⟩) (opv_fieldAddr rfl) rfl ?_
  refine R_take 3 rfl (by kernel_rfl) (by kernel_rfl) (by kernel_rfl) (by kernel_rfl) (by kernel_rfl) (opv_load rfl (Rd.look rfl)) rfl ?_
  first
    | refine R_pure 4 rfl (by kernel_rfl) (by kernel_rfl) (by kernel_rfl) (by kernel_rfl) (.inr ⟨_, Take.eq (A := cel b2 [.int .i64 p.id, .bool p.more, .int .i64 p.off, .int .i64 p.ttl, .int .i64 p.proto, .int .u8 p.s0, .int .u8 p.s1, .int .u8 p.s2, .int .u8 p.s3, .int .u8 p.d0, .int .u8 p.d1, .int .u8 p.d2, .int .u8 p.d3, .string p.data] 32)⟩) (opv_fieldAddr0 rfl) rfl ?_
    | refine R_pure 4 rfl (by kernel_rfl) (by kernel_rfl) (by kernel_rfl) (by kernel_rfl) (.inr ⟨_, Take.eq (A := cel b2 [.int .i64 p.id, .bool p.more, .int .i64 p.off, .int .i64 p.ttl, .int .i64 p.proto, .int .u8 p.s0, .int .u8 p.s1, .int .u8 p.s2, .int .u8 p.s3, .int .u8 p.d0, .int .u8 p.d1, .int .u8 p.d2, .int .u8 p.d3, .string p.data] 32)⟩) (opv_fieldAddr rfl) rfl ?_
  refine R_take 5 rfl (by kernel_rfl) (by kernel_rfl) (by kernel_rfl) (by kernel_rfl) (by kernel_rfl) (opv_load rfl (Rd.look rfl)) rfl ?_
  first
    | refine R_pure 6 rfl (by kernel_rfl) (by kernel_rfl) (by kernel_rfl) (by kernel_rfl) (.inr ⟨_, Take.eq (A := cel b2 [.int .i64 p.id, .bool p.more, .int .i64 p.off, .int .i64 p.ttl, .int .i64 p.proto, .int .u8 p.s0, .int .u8 p.s1, .int .u8 p.s2, .int .u8 p.s3, .int .u8 p.d0, .int .u8 p.d1, .int .u8 p.d2, .int .u8 p.d3, .string p.data] 32)⟩) (opv_fieldAddr0 rfl) rfl ?_
    | refine R_pure 6 rfl (by kernel_rfl) (by kernel_rfl) (by kernel_rfl) (by kernel_rfl) (.inr ⟨_, Take.eq (A := cel b2 [.int .i64 p.id, .bool p.more, .int .i64 p.off, .int .i64 p.ttl, .int .i64 p.proto, .int .u8 p.s0, .int .u8 p.s1, .int .u8 p.s2, .int .u8 p.s3, .int .u8 p.d0, .int .u8 p.d1, .int .u8 p.d2, .int .u8 p.d3, .string p.data] 32)⟩) (opv_fieldAddr rfl) rfl ?_
  refine R_take 7 rfl (by kernel_rfl) (by kernel_rfl) (by kernel_rfl) (by kernel_rfl) (by kernel_rfl) (opv_load rfl (Rd.look rfl)) rfl ?_
  first
    | refine R_pure 8 rfl (by kernel_rfl) (by kernel_rfl) (by kernel_rfl) (by kernel_rfl) (.inr ⟨_, Take.eq (A := cel b2 [.int .i64 p.id, .bool p.more, .int .i64 p.off, .int .i64 p.ttl, .int .i64 p.proto, .int .u8 p.s0, .int .u8 p.s1, .int .u8 p.s2, .int .u8 p.s3, .int .u8 p.d0, .int .u8 p.d1, .int .u8 p.d2, .int .u8 p.d3, .string p.data] 32)⟩) (opv_fieldAddr0 rfl) rfl ?_
    | refine R_pure 8 rfl (by kernel_rfl) (by kernel_rfl) (by kernel_rfl) (by kernel_rfl) (.inr ⟨_, Take.eq (A := cel b2 [.int .i64 p.id, .bool p.more, .int .i64 p.off, .int .i64 p.ttl, .int .i64 p.proto, .int .u8 p.s0, .int .u8 p.s1, .int .u8 p.s2, .int .u8 p.s3, .int .u8 p.d0, .int .u8 p.d1, .int .u8 p.d2, .int .u8 p.d3, .string p.data] 32)⟩) (opv_fieldAddr rfl) rfl ?_
  refine R_take 9 rfl (by kernel_rfl) (by kernel_rfl) (by kernel_rfl) (by kernel_rfl) (by kernel_rfl) (opv_load rfl (Rd.look rfl)) rfl ?_
  first
    | refine R_pure 10 rfl (by kernel_rfl) (by kernel_rfl) (by kernel_rfl) (by kernel_rfl) (.inr ⟨_, Take.eq (A := cel b2 [.int .i64 p.id, .bool p.more, .int .i64 p.off, .int .i64 p.ttl, .int .i64 p.proto, .int .u8 p.s0, .int .u8 p.s1, .int .u8 p.s2, .int .u8 p.s3, .int .u8 p.d0, .int .u8 p.d1, .int .u8 p.d2, .int .u8 p.d3, .string p.data] 32)⟩) (opv_fieldAddr0 rfl) rfl ?_
    | refine R_pure 10 rfl (by kernel_rfl) (by kernel_rfl) (by kernel_rfl) (by kernel_rfl) (.inr ⟨_, Take.eq (A := cel b2 [.int .i64 p.id, .bool p.more, .int .i64 p.off, .int .i64 p.ttl, .int .i64 p.proto, .int .u8 p.s0, .int .u8 p.s1, .int .u8 p.s2, .int .u8 p.s3, .int .u8 p.d0, .int .u8 p.d1, .int .u8 p.d2, .int .u8 p.d3, .string p.data] 32)⟩) (opv_fieldAddr rfl) rfl ?_
  refine R_take 11 rfl (by kernel_rfl) (by kernel_rfl) (by kernel_rfl) (by kernel_rfl) (by kernel_rfl) (opv_loadS rfl) rfl ?_
  first
    | refine R_pure 13 rfl (by kernel_rfl) (by kernel_rfl) (by kernel_rfl) (by kernel_rfl) (.inr ⟨_, Take.eq (A := cel b2 [.int .i64 p.id, .bool p.more, .int .i64 p.off, .int .i64 p.ttl, .int .i64 p.proto, .int .u8 p.s0, .int .u8 p.s1, .int .u8 p.s2, .int .u8 p.s3, .int .u8 p.d0, .int .u8 p.d1, .int .u8 p.d2, .int .u8 p.d3, .string p.data] 32)⟩) (opv_fieldAddr0 rfl) rfl ?_
    | refine R_pure 13 rfl (by kernel_rfl) (by kernel_rfl) (by kernel_rfl) (by kernel_rfl) (.inr ⟨_, Take.eq (A := cel b2 [.int .i64 p.id, .bool p.more, .int .i64 p.off, .int .i64 p.ttl, .int .i64 p.proto, .int .u8 p.s0, .int .u8 p.s1, .int .u8 p.s2, .int .u8 p.s3, .int .u8 p.d0, .int .u8 p.d1, .int .u8 p.d2, .int .u8 p.d3, .string p.data] 32)⟩) (opv_fieldAddr rfl) rfl ?_
  refine R_take 14 rfl (by kernel_rfl) (by kernel_rfl) (by kernel_rfl) (by kernel_rfl) (by kernel_rfl) (opv_loadS rfl) rfl ?_
  first
    | refine R_pure 16 rfl (by kernel_rfl) (by kernel_rfl) (by kernel_rfl) (by kernel_rfl) (.inr ⟨_, Take.eq (A := cel b2 [.int .i64 p.id, .bool p.more, .int .i64 p.off, .int .i64 p.ttl, .int .i64 p.proto, .int .u8 p.s0, .int .u8 p.s1, .int .u8 p.s2, .int .u8 p.s3, .int .u8 p.d0, .int .u8 p.d1, .int .u8 p.d2, .int .u8 p.d3, .string p.data] 32)⟩) (opv_fieldAddr0 rfl) rfl ?_
    | refine R_pure 16 rfl (by kernel_rfl) (by kernel_rfl) (by kernel_rfl) (by kernel_rfl) (.inr ⟨_, Take.eq (A := cel b2 [.int .i64 p.id, .bool p.more, .int .i64 p.off, .int .i64 p.ttl, .int .i64 p.proto, .int .u8 p.s0, .int .u8 p.s1, .int .u8 p.s2, .int .u8 p.s3, .int .u8 p.d0, .int .u8 p.d1, .int .u8 p.d2, .int .u8 p.d3, .string p.data] 32)⟩) (opv_fieldAddr rfl) rfl ?_
  refine R_take 17 rfl (by kernel_rfl) (by kernel_rfl) (by kernel_rfl) (by kernel_rfl) (by kernel_rfl) (opv_load rfl (Rd.look rfl)) rfl ?_
  refine R_all [12, 19] (by kernel_rfl) rfl fun i hi => ?_
  simp only [List.mem_cons, List.not_mem_nil, or_false] at hi
  rcases hi with rfl | rfl
  · refine ⟨_, _, _, _, _, rfl, rfl, (opx_call0 (ip05_spec p.s0 p.s1 p.s2 p.s3 hp.1) rfl rfl rfl), fun _ _ => ⟨⟨_, Take.eq (A := cel b2 [.int .i64 p.id, .bool p.more, .int .i64 p.off, .int .i64 p.ttl, .int .i64 p.proto, .int .u8 p.s0, .int .u8 p.s1, .int .u8 p.s2, .int .u8 p.s3, .int .u8 p.d0, .int .u8 p.d1, .int .u8 p.d2, .int .u8 p.d3, .string p.data] 32)⟩, .inr ⟨_, Take.eq (A := cel b2 [.int .i64 p.id, .bool p.more, .int .i64 p.off, .int .i64 p.ttl, .int .i64 p.proto, .int .u8 p.s0, .int .u8 p.s1, .int .u8 p.s2, .int .u8 p.s3, .int .u8 p.d0, .int .u8 p.d1, .int .u8 p.d2, .int .u8 p.d3, .string p.data] 32)⟩, ?_⟩⟩
    refine Rg_emp ?_
    refine R_all [15, 19] (by kernel_rfl) rfl fun i hi => ?_
    simp only [List.mem_cons, List.not_mem_nil, or_false] at hi
    rcases hi with rfl | rfl
    · refine ⟨_, _, _, _, _, rfl, rfl, (opx_call0 (ip05_spec p.d0 p.d1 p.d2 p.d3 hp.2) rfl rfl rfl), fun _ _ => ⟨⟨_, Take.eq (A := cel b2 [.int .i64 p.id, .bool p.more, .int .i64 p.off, .int .i64 p.ttl, .int .i64 p.proto, .int .u8 p.s0, .int .u8 p.s1, .int .u8 p.s2, .int .u8 p.s3, .int .u8 p.d0, .int .u8 p.d1, .int .u8 p.d2, .int .u8 p.d3, .string p.data] 32)⟩, .inr ⟨_, Take.eq (A := cel b2 [.int .i64 p.id, .bool p.more, .int .i64 p.off, .int .i64 p.ttl, .int .i64 p.proto, .int .u8 p.s0, .int .u8 p.s1, .int .u8 p.s2, .int .u8 p.s3, .int .u8 p.d0, .int .u8 p.d1, .int .u8 p.d2, .int .u8 p.d3, .string p.data] 32)⟩, ?_⟩⟩
      refine Rg_emp ?_
      refine R_pure 18 rfl (by kernel_rfl) (by kernel_rfl) (by kernel_rfl) (by kernel_rfl) (.inr ⟨_, Take.eq (A := cel b2 [.int .i64 p.id, .bool p.more, .int .i64 p.off, .int .i64 p.ttl, .int .i64 p.proto, .int .u8 p.s0, .int .u8 p.s1, .int .u8 p.s2, .int .u8 p.s3, .int .u8 p.d0, .int .u8 p.d1, .int .u8 p.d2, .int .u8 p.d3, .string p.data] 32)⟩) (opv_build rfl) rfl ?_
      refine R_only 19 rfl rfl (by kernel_rfl) (opx_alloc rfl) (fun _ _ => ⟨_, Take.eq (A := cel b2 [.int .i64 p.id, .bool p.more, .int .i64 p.off, .int .i64 p.ttl, .int .i64 p.proto, .int .u8 p.s0, .int .u8 p.s1, .int .u8 p.s2, .int .u8 p.s3, .int .u8 p.d0, .int .u8 p.d1, .int .u8 p.d2, .int .u8 p.d3, .string p.data] 32)⟩) (.inr fun _ _ => ⟨_, Take.eq (A := cel b2 [.int .i64 p.id, .bool p.more, .int .i64 p.off, .int .i64 p.ttl, .int .i64 p.proto, .int .u8 p.s0, .int .u8 p.s1, .int .u8 p.s2, .int .u8 p.s3, .int .u8 p.d0, .int .u8 p.d1, .int .u8 p.d2, .int .u8 p.d3, .string p.data] 32)⟩) (fun b5 _ => ?_)
      refine R_only 20 rfl rfl (by kernel_rfl) (opx_store rfl rfl rfl (by simp [Value.oneCell'])) (fun _ _ => ⟨_, Take.eq (A := cel b2 [.int .i64 p.id, .bool p.more, .int .i64 p.off, .int .i64 p.ttl, .int .i64 p.proto, .int .u8 p.s0, .int .u8 p.s1, .int .u8 p.s2, .int .u8 p.s3, .int .u8 p.d0, .int .u8 p.d1, .int .u8 p.d2, .int .u8 p.d3, .string p.data] 32)⟩) (.inr fun _ _ => ⟨_, Take.eq (A := cel b2 [.int .i64 p.id, .bool p.more, .int .i64 p.off, .int .i64 p.ttl, .int .i64 p.proto, .int .u8 p.s0, .int .u8 p.s1, .int .u8 p.s2, .int .u8 p.s3, .int .u8 p.d0, .int .u8 p.d1, .int .u8 p.d2, .int .u8 p.d3, .string p.data] 32)⟩) (fun _ _ => ?_)
      refine R_done (by kernel_rfl) ?_
      refine K_then ?_
      refine J_seq ?_
      refine J_seq ?_
      refine J_region ?_
      refine L_v (opv_move rfl) rfl ?_
      refine L_v (opv_move rfl) rfl ?_
      refine L_gskip rfl rfl rfl ?_ (fun _ h => by cases h; rfl)
      refine L_gskip rfl rfl rfl ?_ (fun _ h => by cases h; rfl)
      refine L_gskip rfl rfl rfl ?_ (fun _ h => by cases h; rfl)
      refine L_gskip rfl rfl rfl ?_ (fun _ h => by cases h; rfl)
      first
        | refine L_v (opv_pick_tt rfl rfl) rfl ?_
        | refine L_v (opv_pick_ff rfl rfl) rfl ?_
        | refine L_v (opv_pick rfl rfl rfl) rfl ?_
      refine L_v (opv_move rfl) rfl ?_
      refine L_gskip rfl rfl rfl ?_ (fun _ h => by cases h; rfl)
      refine L_gskip rfl rfl rfl ?_ (fun _ h => by cases h; rfl)
      refine L_gskip rfl rfl rfl ?_ (fun _ h => by cases h; rfl)
      refine L_gskip rfl rfl rfl ?_ (fun _ h => by cases h; rfl)
      first
        | refine L_v (opv_pick_tt rfl rfl) rfl ?_
        | refine L_v (opv_pick_ff rfl rfl) rfl ?_
        | refine L_v (opv_pick rfl rfl rfl) rfl ?_
      refine L_nil ?_
      refine K_then ?_
      refine J_cond_false rfl ?_
      refine J_skip ?_
      refine K_then ?_
      refine J_seq ?_
      refine J_region ?_
      refine L_v (opv_loadS rfl) rfl ?_
      refine L_x rfl (opx_store rfl rfl rfl (by simp [Value.oneCell'])) (fun _ _ => ?_)
      refine L_nil ?_
      refine K_then ?_
      refine J_ret ?_
      exact K_ret1c (Q := fun _ _ _ => True) rfl rfl rfl () trivial rfl Ent.take
    · refine ⟨_, _, _, _, _, rfl, rfl, (opx_alloc rfl), fun b5 _ => ⟨⟨_, Take.eq (A := cel b2 [.int .i64 p.id, .bool p.more, .int .i64 p.off, .int .i64 p.ttl, .int .i64 p.proto, .int .u8 p.s0, .int .u8 p.s1, .int .u8 p.s2, .int .u8 p.s3, .int .u8 p.d0, .int .u8 p.d1, .int .u8 p.d2, .int .u8 p.d3, .string p.data] 32)⟩, .inr ⟨_, Take.eq (A := cel b2 [.int .i64 p.id, .bool p.more, .int .i64 p.off, .int .i64 p.ttl, .int .i64 p.proto, .int .u8 p.s0, .int .u8 p.s1, .int .u8 p.s2, .int .u8 p.s3, .int .u8 p.d0, .int .u8 p.d1, .int .u8 p.d2, .int .u8 p.d3, .string p.data] 32)⟩, ?_⟩⟩
      refine R_only 15 rfl rfl (by kernel_rfl) (opx_call0 (ip05_spec p.d0 p.d1 p.d2 p.d3 hp.2) rfl rfl rfl) (fun _ _ => ⟨_, Take.eq (A := cel b2 [.int .i64 p.id, .bool p.more, .int .i64 p.off, .int .i64 p.ttl, .int .i64 p.proto, .int .u8 p.s0, .int .u8 p.s1, .int .u8 p.s2, .int .u8 p.s3, .int .u8 p.d0, .int .u8 p.d1, .int .u8 p.d2, .int .u8 p.d3, .string p.data] 32)⟩) (.inr fun _ _ => ⟨_, Take.eq (A := cel b2 [.int .i64 p.id, .bool p.more, .int .i64 p.off, .int .i64 p.ttl, .int .i64 p.proto, .int .u8 p.s0, .int .u8 p.s1, .int .u8 p.s2, .int .u8 p.s3, .int .u8 p.d0, .int .u8 p.d1, .int .u8 p.d2, .int .u8 p.d3, .string p.data] 32)⟩) (fun _ _ => ?_)
      refine Rg_emp ?_
      refine R_pure 18 rfl (by kernel_rfl) (by kernel_rfl) (by kernel_rfl) (by kernel_rfl) (.inr ⟨_, Take.eq (A := cel b2 [.int .i64 p.id, .bool p.more, .int .i64 p.off, .int .i64 p.ttl, .int .i64 p.proto, .int .u8 p.s0, .int .u8 p.s1, .int .u8 p.s2, .int .u8 p.s3, .int .u8 p.d0, .int .u8 p.d1, .int .u8 p.d2, .int .u8 p.d3, .string p.data] 32)⟩) (opv_build rfl) rfl ?_
      refine R_only 20 rfl rfl (by kernel_rfl) (opx_store rfl rfl rfl (by simp [Value.oneCell'])) (fun _ _ => ⟨_, Take.eq (A := cel b2 [.int .i64 p.id, .bool p.more, .int .i64 p.off, .int .i64 p.ttl, .int .i64 p.proto, .int .u8 p.s0, .int .u8 p.s1, .int .u8 p.s2, .int .u8 p.s3, .int .u8 p.d0, .int .u8 p.d1, .int .u8 p.d2, .int .u8 p.d3, .string p.data] 32)⟩) (.inr fun _ _ => ⟨_, Take.eq (A := cel b2 [.int .i64 p.id, .bool p.more, .int .i64 p.off, .int .i64 p.ttl, .int .i64 p.proto, .int .u8 p.s0, .int .u8 p.s1, .int .u8 p.s2, .int .u8 p.s3, .int .u8 p.d0, .int .u8 p.d1, .int .u8 p.d2, .int .u8 p.d3, .string p.data] 32)⟩) (fun _ _ => ?_)
      refine R_done (by kernel_rfl) ?_
      refine K_then ?_
      refine J_seq ?_
      refine J_seq ?_
      refine J_region ?_
      refine L_v (opv_move rfl) rfl ?_
      refine L_v (opv_move rfl) rfl ?_
      refine L_gskip rfl rfl rfl ?_ (fun _ h => by cases h; rfl)
      refine L_gskip rfl rfl rfl ?_ (fun _ h => by cases h; rfl)
      refine L_gskip rfl rfl rfl ?_ (fun _ h => by cases h; rfl)
      refine L_gskip rfl rfl rfl ?_ (fun _ h => by cases h; rfl)
      first
        | refine L_v (opv_pick_tt rfl rfl) rfl ?_
        | refine L_v (opv_pick_ff rfl rfl) rfl ?_
        | refine L_v (opv_pick rfl rfl rfl) rfl ?_
      refine L_v (opv_move rfl) rfl ?_
      refine L_gskip rfl rfl rfl ?_ (fun _ h => by cases h; rfl)
      refine L_gskip rfl rfl rfl ?_ (fun _ h => by cases h; rfl)
      refine L_gskip rfl rfl rfl ?_ (fun _ h => by cases h; rfl)
      refine L_gskip rfl rfl rfl ?_ (fun _ h => by cases h; rfl)
      first
        | refine L_v (opv_pick_tt rfl rfl) rfl ?_
        | refine L_v (opv_pick_ff rfl rfl) rfl ?_
        | refine L_v (opv_pick rfl rfl rfl) rfl ?_
      refine L_nil ?_
      refine K_then ?_
      refine J_cond_false rfl ?_
      refine J_skip ?_
      refine K_then ?_
      refine J_seq ?_
      refine J_region ?_
      refine L_v (opv_loadS rfl) rfl ?_
      refine L_x rfl (opx_store rfl rfl rfl (by simp [Value.oneCell'])) (fun _ _ => ?_)
      refine L_nil ?_
      refine K_then ?_
      refine J_ret ?_
      exact K_ret1c (Q := fun _ _ _ => True) rfl rfl rfl () trivial rfl Ent.take
  · refine ⟨_, _, _, _, _, rfl, rfl, (opx_alloc rfl), fun b5 _ => ⟨⟨_, Take.eq (A := cel b2 [.int .i64 p.id, .bool p.more, .int .i64 p.off, .int .i64 p.ttl, .int .i64 p.proto, .int .u8 p.s0, .int .u8 p.s1, .int .u8 p.s2, .int .u8 p.s3, .int .u8 p.d0, .int .u8 p.d1, .int .u8 p.d2, .int .u8 p.d3, .string p.data] 32)⟩, .inr ⟨_, Take.eq (A := cel b2 [.int .i64 p.id, .bool p.more, .int .i64 p.off, .int .i64 p.ttl, .int .i64 p.proto, .int .u8 p.s0, .int .u8 p.s1, .int .u8 p.s2, .int .u8 p.s3, .int .u8 p.d0, .int .u8 p.d1, .int .u8 p.d2, .int .u8 p.d3, .string p.data] 32)⟩, ?_⟩⟩
    refine R_only 12 rfl rfl (by kernel_rfl) (opx_call0 (ip05_spec p.s0 p.s1 p.s2 p.s3 hp.1) rfl rfl rfl) (fun _ _ => ⟨_, Take.eq (A := cel b2 [.int .i64 p.id, .bool p.more, .int .i64 p.off, .int .i64 p.ttl, .int .i64 p.proto, .int .u8 p.s0, .int .u8 p.s1, .int .u8 p.s2, .int .u8 p.s3, .int .u8 p.d0, .int .u8 p.d1, .int .u8 p.d2, .int .u8 p.d3, .string p.data] 32)⟩) (.inr fun _ _ => ⟨_, Take.eq (A := cel b2 [.int .i64 p.id, .bool p.more, .int .i64 p.off, .int .i64 p.ttl, .int .i64 p.proto, .int .u8 p.s0, .int .u8 p.s1, .int .u8 p.s2, .int .u8 p.s3, .int .u8 p.d0, .int .u8 p.d1, .int .u8 p.d2, .int .u8 p.d3, .string p.data] 32)⟩) (fun _ _ => ?_)
    refine Rg_emp ?_
    refine R_only 15 rfl rfl (by kernel_rfl) (opx_call0 (ip05_spec p.d0 p.d1 p.d2 p.d3 hp.2) rfl rfl rfl) (fun _ _ => ⟨_, Take.eq (A := cel b2 [.int .i64 p.id, .bool p.more, .int .i64 p.off, .int .i64 p.ttl, .int .i64 p.proto, .int .u8 p.s0, .int .u8 p.s1, .int .u8 p.s2, .int .u8 p.s3, .int .u8 p.d0, .int .u8 p.d1, .int .u8 p.d2, .int .u8 p.d3, .string p.data] 32)⟩) (.inr fun _ _ => ⟨_, Take.eq (A := cel b2 [.int .i64 p.id, .bool p.more, .int .i64 p.off, .int .i64 p.ttl, .int .i64 p.proto, .int .u8 p.s0, .int .u8 p.s1, .int .u8 p.s2, .int .u8 p.s3, .int .u8 p.d0, .int .u8 p.d1, .int .u8 p.d2, .int .u8 p.d3, .string p.data] 32)⟩) (fun _ _ => ?_)
    refine Rg_emp ?_
    refine R_pure 18 rfl (by kernel_rfl) (by kernel_rfl) (by kernel_rfl) (by kernel_rfl) (.inr ⟨_, Take.eq (A := cel b2 [.int .i64 p.id, .bool p.more, .int .i64 p.off, .int .i64 p.ttl, .int .i64 p.proto, .int .u8 p.s0, .int .u8 p.s1, .int .u8 p.s2, .int .u8 p.s3, .int .u8 p.d0, .int .u8 p.d1, .int .u8 p.d2, .int .u8 p.d3, .string p.data] 32)⟩) (opv_build rfl) rfl ?_
    refine R_only 20 rfl rfl (by kernel_rfl) (opx_store rfl rfl rfl (by simp [Value.oneCell'])) (fun _ _ => ⟨_, Take.eq (A := cel b2 [.int .i64 p.id, .bool p.more, .int .i64 p.off, .int .i64 p.ttl, .int .i64 p.proto, .int .u8 p.s0, .int .u8 p.s1, .int .u8 p.s2, .int .u8 p.s3, .int .u8 p.d0, .int .u8 p.d1, .int .u8 p.d2, .int .u8 p.d3, .string p.data] 32)⟩) (.inr fun _ _ => ⟨_, Take.eq (A := cel b2 [.int .i64 p.id, .bool p.more, .int .i64 p.off, .int .i64 p.ttl, .int .i64 p.proto, .int .u8 p.s0, .int .u8 p.s1, .int .u8 p.s2, .int .u8 p.s3, .int .u8 p.d0, .int .u8 p.d1, .int .u8 p.d2, .int .u8 p.d3, .string p.data] 32)⟩) (fun _ _ => ?_)
    refine R_done (by kernel_rfl) ?_
    refine K_then ?_
    refine J_seq ?_
    refine J_seq ?_
    refine J_region ?_
    refine L_v (opv_move rfl) rfl ?_
    refine L_v (opv_move rfl) rfl ?_
    refine L_gskip rfl rfl rfl ?_ (fun _ h => by cases h; rfl)
    refine L_gskip rfl rfl rfl ?_ (fun _ h => by cases h; rfl)
    refine L_gskip rfl rfl rfl ?_ (fun _ h => by cases h; rfl)
    refine L_gskip rfl rfl rfl ?_ (fun _ h => by cases h; rfl)
    first
      | refine L_v (opv_pick_tt rfl rfl) rfl ?_
      | refine L_v (opv_pick_ff rfl rfl) rfl ?_
      | refine L_v (opv_pick rfl rfl rfl) rfl ?_
    refine L_v (opv_move rfl) rfl ?_
    refine L_gskip rfl rfl rfl ?_ (fun _ h => by cases h; rfl)
    refine L_gskip rfl rfl rfl ?_ (fun _ h => by cases h; rfl)
    refine L_gskip rfl rfl rfl ?_ (fun _ h => by cases h; rfl)
    refine L_gskip rfl rfl rfl ?_ (fun _ h => by cases h; rfl)
    first
      | refine L_v (opv_pick_tt rfl rfl) rfl ?_
      | refine L_v (opv_pick_ff rfl rfl) rfl ?_
      | refine L_v (opv_pick rfl rfl rfl) rfl ?_
    refine L_nil ?_
    refine K_then ?_
    refine J_cond_false rfl ?_
    refine J_skip ?_
    refine K_then ?_
    refine J_seq ?_
    refine J_region ?_
    refine L_v (opv_loadS rfl) rfl ?_
    refine L_x rfl (opx_store rfl rfl rfl (by simp [Value.oneCell'])) (fun _ _ => ?_)
    refine L_nil ?_
    refine K_then ?_
    refine J_ret ?_
    exact K_ret1c (Q := fun _ _ _ => True) rfl rfl rfl () trivial rfl Ent.take

theorem PlainL_spec (A : Option Addr) (c : Nat) (L : List Pk) (ok : ∀ x ∈ L, okA x) (hn : L.length ≤ 100000) : FSpec Try.prog 22 #[.slice A L.length c] (Own 32 14 (.slice A L.length c) L.length (L.flatMap encPk)) (fun r : Option Addr × Nat => True) (fun r => .slice r.1 L.length r.2) (fun r => (sep (Own 32 14 (.slice A L.length c) L.length (L.flatMap encPk)) (Own 36 8 (.slice r.1 L.length r.2) L.length (L.flatMap encR)))) := by
  refine FSpec.enter' Try.func22 rfl Try.ntmps22 rfl fun σ F => ?_
  refine J_know (fun w hs => own_nonnil hs) fun hA => ?_
  refine J_imp (sep (Own 36 8 (.slice none 0 0) ([] : List Pk).length (([] : List Pk).flatMap encR)) (sep (Own 32 14 (.slice A L.length c) L.length (L.flatMap encPk)) (F))) (Ent.trans (Ent.of (emp_sep _).symm) ((Own.nil 36 8).frame _)) ?_
  refine J_seq ?_
  refine J_region ?_
  refine L_v (opv_assign rfl) rfl ?_
  refine L_nil ?_
  refine K_then ?_
  refine J_seq ?_
  refine J_region ?_
  refine L_v (opv_assign rfl) rfl ?_
  refine L_nil ?_
  refine K_then ?_
  refine J_seq ?_
  refine J_seq ?_
  refine J_region ?_
  refine L_v (opv_assign rfl) rfl ?_
  refine L_nil ?_
  refine K_then ?_
  refine J_block ?_
  refine J_loop (X := Nat × (Option Addr × Nat)) (fun y => [(0, .slice A L.length c), (3, .slice y.2.1 (L.take y.1).length y.2.2), (4, .int .i64 y.1)]) (fun y => (sep (Own 36 8 (.slice y.2.1 (L.take y.1).length y.2.2) (L.take y.1).length ((L.take y.1).flatMap encR)) (sep (Own 32 14 (.slice A L.length c) L.length (L.flatMap encPk)) (F)))) (fun y => y.1 ≤ L.length) (fun y => L.length - y.1) ((0, (none, 0))) (Nat.zero_le _) ⟨rfl, rfl, rfl, trivial⟩ (Ent.refl _) (fun y hy => ?_)
  have hlt : (L.take y.1).length = y.1 := by rw [List.length_take]; omega
  refine J_seq ?_
  refine J_seq ?_
  refine J_region ?_
  refine L_v (opv_move rfl) rfl ?_
  refine L_v (opv_move rfl) rfl ?_
  first
    | refine L_v (opv_lenL rfl) rfl ?_
    | refine L_v (opv_lenS rfl) rfl ?_
  refine L_v (opv_lss rfl rfl) rfl ?_
  refine L_nil ?_
  refine K_then ?_
  refine J_cond rfl (fun h1 => ?_) (fun h1 => ?_)
  · have hkl : y.1 < L.length := by omega
    obtain ⟨x, hx⟩ : ∃ x, L[y.1]? = some x := ⟨_, List.getElem?_eq_getElem hkl⟩
    have okx := ok x (List.mem_of_getElem? hx)
    obtain ⟨b, o, rfl⟩ : ∃ b o, A = some (ad b o) := by rcases hA with ⟨_, _, h, _⟩ | h; omega; exact h
    refine J_skip ?_
    refine K_then ?_
    refine J_seq ?_
    refine J_block ?_
    refine J_region ?_
    refine L_v (opv_move rfl) rfl ?_
    refine L_v (opv_move rfl) rfl ?_
    refine L_v (opv_move rfl) rfl ?_
    first
      | refine L_v (opv_indexAddr rfl rfl (by omega)) rfl ?_
      | refine L_v (opv_indexAddrA rfl rfl (by omega)) rfl ?_
    refine L_v (opv_loadN (vs := [.int .i64 x.id, .bool x.more, .int .i64 x.off, .int .i64 x.ttl, .int .i64 x.proto, .int .u8 x.s0, .int .u8 x.s1, .int .u8 x.s2, .int .u8 x.s3, .int .u8 x.d0, .int .u8 x.d1, .int .u8 x.d2, .int .u8 x.d3, .string x.data]) rfl rfl (fun j u hj => Rd.of_take (S := Own 32 14 (.slice (some (ad b o)) L.length c) L.length (L.flatMap encPk)) ((RdS.own (m := 14) (e := 32) (c := c) encPk_len (.inr ⟨b, o, rfl⟩)).rd b o rfl y.1 x j u hx hj))) rfl ?_
    refine L_x rfl (opx_call0 (Plain05_f x okx) rfl rfl rfl) (fun _ _ => ?_)
    refine L_emp ?_
    refine L_x rfl (opx_buildSlice1 (m := 8) rfl rfl (by omega) (by omega) rfl) (fun b17 _ => ?_)
    refine L_x rfl (opx_append (m := 8) (B := 88) rfl rfl (Src.lit) rfl (by omega) rfl (encR_one _) (by unfold maxLen; omega) (by omega) rfl) (fun y18 _ => ?_)
    refine L_v (opv_assign rfl) rfl ?_
    refine L_nil ?_
    refine K_block ?_
    refine K_then ?_
    refine J_region ?_
    refine L_v (opv_move rfl) rfl ?_
    first
      | refine L_v (opv_add64 rfl rfl (by omega)) rfl ?_
      | refine L_v (opv_addS rfl rfl (by omega)) rfl ?_
      | refine L_v (opv_add rfl rfl) rfl ?_
    refine L_v (opv_assign rfl) rfl ?_
    refine L_nil ?_
    have htk := take_one hx
    rw [show (L.take y.1).length + 1 = (L.take (y.1 + 1)).length by rw [htk]; simp, show (L.take y.1).flatMap encR ++ encR x = (L.take (y.1 + 1)).flatMap encR by rw [htk]; simp]
    exact K_loop ((y.1 + 1, y18)) (by show y.1 + 1 ≤ _; omega) (by show _ - (y.1 + 1) < _; omega) ⟨rfl, rfl, rfl, trivial⟩ Ent.take
  · refine J_exit ?_
    refine K_then_exit ?_
    refine K_then_exit ?_
    refine K_block_here ?_
    refine K_then ?_
    refine J_seq ?_
    refine J_region ?_
    refine L_v (opv_move rfl) rfl ?_
    refine L_v (opv_assign rfl) rfl ?_
    refine L_nil ?_
    refine K_then ?_
    refine J_ret ?_
    have he : y.1 = L.length := by omega
    rw [show (L.take y.1) = L by rw [he]; exact List.take_length]
    exact K_ret1 rfl rfl y.2 trivial rfl Ent.take

theorem Same_yes (A B : Option Addr) (c c2 : Nat) (L : List Pk) (hn : L.length ≤ 100000) : FSpec Try.prog 26 #[.slice A L.length c, .slice B L.length c2] ((sep (Own 36 8 (.slice A L.length c) L.length (L.flatMap encR)) (Own 36 8 (.slice B L.length c2) L.length (L.flatMap encR)))) (fun _ : Unit => True) (fun _ => .bool true) (fun _ => (sep (Own 36 8 (.slice A L.length c) L.length (L.flatMap encR)) (Own 36 8 (.slice B L.length c2) L.length (L.flatMap encR)))) := by
  refine FSpec.enter' Try.func26 rfl Try.ntmps26 rfl fun σ F => ?_
  refine J_eq _ (sep_assoc _ _ _) ?_
  refine J_know (fun w hs => own_nonnil hs) fun hA => ?_
  refine J_know (fun w hs => own_nonnil hs.drop) fun hB => ?_
  refine J_seq ?_
  refine J_region ?_
  refine L_v (opv_assign rfl) rfl ?_
  refine L_nil ?_
  refine K_then ?_
  refine J_seq ?_
  refine J_seq ?_
  refine J_region ?_
  refine L_v (opv_move rfl) rfl ?_
  first
    | refine L_v (opv_lenL rfl) rfl ?_
    | refine L_v (opv_lenS rfl) rfl ?_
  refine L_v (opv_move rfl) rfl ?_
  first
    | refine L_v (opv_lenL rfl) rfl ?_
    | refine L_v (opv_lenS rfl) rfl ?_
  refine L_v ((opv_neq rfl rfl).bool_f (fun n => n rfl)) rfl ?_
  refine L_nil ?_
  refine K_then ?_
  refine J_cond_false rfl ?_
  refine J_skip ?_
  refine K_then ?_
  refine J_seq ?_
  refine J_seq ?_
  refine J_region ?_
  refine L_v (opv_assign rfl) rfl ?_
  refine L_nil ?_
  refine K_then ?_
  refine J_block ?_
  refine J_loop (X := Nat) (fun k => [(0, .slice A L.length c), (1, .slice B L.length c2), (5, .int .i64 k)]) (fun k => (sep (Own 36 8 (.slice A L.length c) L.length (L.flatMap encR)) (sep (Own 36 8 (.slice B L.length c2) L.length (L.flatMap encR)) (F)))) (fun k => k ≤ L.length) (fun k => L.length - k) (0) (Nat.zero_le _) ⟨rfl, rfl, rfl, trivial⟩ (Ent.refl _) (fun k hk => ?_)
  refine J_seq ?_
  refine J_seq ?_
  refine J_region ?_
  refine L_v (opv_move rfl) rfl ?_
  refine L_v (opv_move rfl) rfl ?_
  first
    | refine L_v (opv_lenL rfl) rfl ?_
    | refine L_v (opv_lenS rfl) rfl ?_
  refine L_v (opv_lss rfl rfl) rfl ?_
  refine L_nil ?_
  refine K_then ?_
  refine J_cond rfl (fun h1 => ?_) (fun h1 => ?_)
  · have hkl : k < L.length := by omega
    obtain ⟨x, hx⟩ : ∃ x, L[k]? = some x := ⟨_, List.getElem?_eq_getElem hkl⟩
    obtain ⟨b, o, rfl⟩ : ∃ b o, A = some (ad b o) := by rcases hA with ⟨_, _, h, _⟩ | h; omega; exact h
    obtain ⟨b3, o3, rfl⟩ : ∃ b o, B = some (ad b o) := by rcases hB with ⟨_, _, h, _⟩ | h; omega; exact h
    refine J_skip ?_
    refine K_then ?_
    refine J_seq ?_
    refine J_block ?_
    refine J_seq ?_
    refine J_quiet Try.mixed (by kernel_rfl) ?_
    refine Q_v (opv_move rfl) rfl ?_
    refine Q_v (opv_move rfl) rfl ?_
    first
      | refine Q_v (opv_indexAddr rfl rfl (by omega)) rfl ?_
      | refine Q_v (opv_indexAddrA rfl rfl (by omega)) rfl ?_
    refine Q_v (opv_loadN (vs := encR x) rfl rfl (fun j u hj => Rd.of_take (S := Own 36 8 (.slice (some (ad b o)) L.length c) L.length (L.flatMap encR)) ((RdS.own (m := 8) (e := 36) (c := c) encR_len (.inr ⟨b, o, rfl⟩)).rd b o rfl k x j u hx hj))) rfl ?_
    refine Q_v (opv_move rfl) rfl ?_
    refine Q_v (opv_move rfl) rfl ?_
    first
      | refine Q_v (opv_indexAddr rfl rfl (by omega)) rfl ?_
      | refine Q_v (opv_indexAddrA rfl rfl (by omega)) rfl ?_
    refine Q_v (opv_loadN (vs := encR x) rfl rfl (fun j u hj => Rd.of_take (S := Own 36 8 (.slice (some (ad b3 o3)) L.length c2) L.length (L.flatMap encR)) ((RdS.own (m := 8) (e := 36) (c := c2) encR_len (.inr ⟨b3, o3, rfl⟩)).rd b3 o3 rfl k x j u hx hj))) rfl ?_
    refine Q_v ((opv_neqF rfl rfl (by simp [encR, Shape, CK.sh]) (by simp [encR, Shape, CK.sh])).bool_f (fun n => n rfl)) rfl ?_
    refine QL_nil ?_
    refine K_then ?_
    refine J_cond_false rfl ?_
    refine J_skip ?_
    refine K_block ?_
    refine K_then ?_
    refine J_region ?_
    refine L_v (opv_move rfl) rfl ?_
    first
      | refine L_v (opv_add64 rfl rfl (by omega)) rfl ?_
      | refine L_v (opv_addS rfl rfl (by omega)) rfl ?_
      | refine L_v (opv_add rfl rfl) rfl ?_
    refine L_v (opv_assign rfl) rfl ?_
    refine L_nil ?_
    exact K_loop (k + 1) (by omega) (by omega) ⟨rfl, rfl, rfl, trivial⟩ (Ent.refl _)
  · refine J_exit ?_
    refine K_then_exit ?_
    refine K_then_exit ?_
    refine K_block_here ?_
    refine K_then ?_
    refine J_seq ?_
    refine J_region ?_
    refine L_v (opv_assign rfl) rfl ?_
    refine L_nil ?_
    refine K_then ?_
    refine J_ret ?_
    exact K_ret1 rfl rfl () trivial (rfl) Ent.take

theorem FS_big (W : World) (p : Pk) (m : Int) (h : 70000 < p.data.size) : FSpec Try.prog 5 #[.agg [.int .i64 p.id, .bool p.more, .int .i64 p.off, .int .i64 p.ttl, .int .i64 p.proto, .int .u8 p.s0, .int .u8 p.s1, .int .u8 p.s2, .int .u8 p.s3, .int .u8 p.d0, .int .u8 p.d1, .int .u8 p.d2, .int .u8 p.d3, .string p.data].toArray, .int .i64 m] (old W) (fun _ : Unit => True) (fun _ => .bool true) (fun _ => old W) := by
  refine FSpec.enter' Try.func5 rfl Try.ntmps5 rfl fun σ F => ?_
  refine J_seq ?_
  refine J_region ?_
  refine L_x rfl (opx_box (l := [.int .i64 p.id, .bool p.more, .int .i64 p.off, .int .i64 p.ttl, .int .i64 p.proto, .int .u8 p.s0, .int .u8 p.s1, .int .u8 p.s2, .int .u8 p.s3, .int .u8 p.d0, .int .u8 p.d1, .int .u8 p.d2, .int .u8 p.d3, .string p.data]) rfl rfl) (fun b2 _ => ?_)
  refine L_v (opv_assign rfl) rfl ?_
  refine L_nil ?_
  refine K_then ?_
  refine J_seq ?_
  refine J_seq ?_
  refine J_region ?_
  first
    | refine L_v (opv_fieldAddr0 rfl) rfl ?_
    | refine L_v (opv_fieldAddr rfl) rfl ?_
  refine L_v (opv_load rfl (Rd.look rfl)) rfl ?_
  first
    | refine L_v (opv_lenL rfl) rfl ?_
    | refine L_v (opv_lenS rfl) rfl ?_
  refine L_v ((opv_gtr rfl rfl).bool_t (by omega)) rfl ?_
  refine L_nil ?_
  refine K_then ?_
  refine J_cond_true rfl ?_
  refine J_seq ?_
  refine J_region ?_
  refine L_x rfl (opx_call0 (fawake_spec) rfl rfl rfl) (fun _ _ => ?_)
  refine L_emp ?_
  refine L_v (opv_assign rfl) rfl ?_
  refine L_nil ?_
  refine K_then ?_
  refine J_ret ?_
  refine K_then_ret ?_
  exact K_ret1 rfl rfl () trivial (rfl) Ent.take

theorem FS_ok (W : World) (p : Pk) (m : Int) (hp : okA p) (h : p.data.size ≤ 70000) : FSpec Try.prog 5 #[.agg [.int .i64 p.id, .bool p.more, .int .i64 p.off, .int .i64 p.ttl, .int .i64 p.proto, .int .u8 p.s0, .int .u8 p.s1, .int .u8 p.s2, .int .u8 p.s3, .int .u8 p.d0, .int .u8 p.d1, .int .u8 p.d2, .int .u8 p.d3, .string p.data].toArray, .int .i64 m] (old W) (fun _ : Unit => True) (fun _ => .bool true) (fun _ => old W) := by
  obtain ⟨hok, hln⟩ := partsC_ok (m := m) hp
  refine FSpec.enter' Try.func5 rfl Try.ntmps5 rfl fun σ F => ?_
  refine J_seq ?_
  refine J_region ?_
  refine L_x rfl (opx_box (l := [.int .i64 p.id, .bool p.more, .int .i64 p.off, .int .i64 p.ttl, .int .i64 p.proto, .int .u8 p.s0, .int .u8 p.s1, .int .u8 p.s2, .int .u8 p.s3, .int .u8 p.d0, .int .u8 p.d1, .int .u8 p.d2, .int .u8 p.d3, .string p.data]) rfl rfl) (fun b2 _ => ?_)
  refine L_v (opv_assign rfl) rfl ?_
  refine L_nil ?_
  refine K_then ?_
  refine J_seq ?_
  refine J_seq ?_
  refine J_region ?_
  first
    | refine L_v (opv_fieldAddr0 rfl) rfl ?_
    | refine L_v (opv_fieldAddr rfl) rfl ?_
  refine L_v (opv_load rfl (Rd.look rfl)) rfl ?_
  first
    | refine L_v (opv_lenL rfl) rfl ?_
    | refine L_v (opv_lenS rfl) rfl ?_
  refine L_v ((opv_gtr rfl rfl).bool_f (by omega)) rfl ?_
  refine L_nil ?_
  refine K_then ?_
  refine J_cond_false rfl ?_
  refine J_skip ?_
  refine K_then ?_
  refine J_seq ?_
  refine J_region ?_
  refine L_v (opv_loadS rfl) rfl ?_
  refine L_v (opv_move rfl) rfl ?_
  refine L_x rfl (opx_call0 (Split_all p m) rfl rfl rfl) (fun r1 _ => ?_)
  refine L_v (opv_move rfl) rfl ?_
  refine L_v (opv_extract rfl rfl) rfl ?_
  refine L_v (opv_extract rfl rfl) rfl ?_
  refine L_v (opv_assign rfl) rfl ?_
  refine L_v (opv_assign rfl) rfl ?_
  refine L_nil ?_
  refine K_then ?_
  refine J_seq ?_
  refine J_region ?_
  refine L_v (opv_loadS rfl) rfl ?_
  refine L_x rfl (opx_call0 (Plain05_f p hp) rfl rfl rfl) (fun _ _ => ?_)
  refine L_emp ?_
  refine L_v (opv_move rfl) rfl ?_
  refine L_x rfl (opx_call0 (RSplit_all p m) rfl rfl rfl) (fun r2 _ => ?_)
  refine L_v (opv_move rfl) rfl ?_
  refine L_v (opv_extract rfl rfl) rfl ?_
  refine L_v (opv_extract rfl rfl) rfl ?_
  refine L_v (opv_assign rfl) rfl ?_
  refine L_v (opv_assign rfl) rfl ?_
  refine L_nil ?_
  refine K_then ?_
  refine J_seq ?_
  refine J_region ?_
  refine L_v (opv_move rfl) rfl ?_
  refine L_x rfl (opx_call0 (PlainL_spec r1.1 r1.2 (partsC p m) hok (by omega)) rfl rfl rfl) (fun r3 _ => ?_)
  refine L_v (opv_move rfl) rfl ?_
  refine L_x rfl (opx_call0 (Same_yes r3.1 r2.1 r3.2 r2.2 (partsC p m) (by omega)) rfl rfl rfl) (fun _ _ => ?_)
  refine L_v (opv_move rfl) rfl ?_
  refine L_gon rfl rfl rfl ?_
  refine L_v (opv_move rfl) rfl ?_
  refine L_gon rfl rfl rfl ?_
  refine L_v (opv_move rfl) rfl ?_
  refine L_gon rfl rfl rfl ?_
  refine L_v ((opv_eql rfl rfl).bool_t rfl) rfl ?_
  first
    | refine L_v (opv_pick_tt rfl rfl) rfl ?_
    | refine L_v (opv_pick_ff rfl rfl) rfl ?_
    | refine L_v (opv_pick rfl rfl rfl) rfl ?_
  refine L_v (opv_move rfl) rfl ?_
  refine L_gon rfl rfl rfl ?_
  refine L_x rfl (opx_call0 (fawake_spec) rfl rfl rfl) (fun _ _ => ?_)
  refine L_emp ?_
  first
    | refine L_v (opv_pick_tt rfl rfl) rfl ?_
    | refine L_v (opv_pick_ff rfl rfl) rfl ?_
    | refine L_v (opv_pick rfl rfl rfl) rfl ?_
  refine L_v (opv_assign rfl) rfl ?_
  refine L_nil ?_
  refine K_then ?_
  refine J_ret ?_
  exact K_ret1 rfl rfl () trivial (rfl) Ent.take

theorem FragSplits_law (W : World) (p : Pk) (m : Int) (hp : okPk p) : FSpec Try.prog 5 #[.agg (encPk p).toArray, .int .i64 m] (old W) (fun _ : Unit => True) (fun _ => .bool true) (fun _ => old W) := by
  by_cases h : 70000 < p.data.size
  · exact FS_big W p m h
  · exact FS_ok W p m hp.a (by omega)
def pkz : Pk := ⟨0, false, 0, 0, 0, 0, 0, 0, 0, 0, 0, 0, 0, ⟨#[]⟩⟩

end Go.Proofs.Ytjpbpfihacfndaa
namespace Go.Proofs.Ytjpbpfihacfndaa.fragSplits
open Go.ChangeShapes Go.WideShapes Go.ChangeAt Go.RowKit Go.SLA
open Go.ChangeMaps (open_string shut_string)
set_option linter.unusedVariables false
theorem own : ownKnob Try.prog.godebug = none := by kernel_rfl
theorem laidOut : laidOutB Try.prog = true := by kernel_rfl
set_option maxRecDepth 100000 in
theorem lifted (os : Os) (started : os.Started) (H : Type) (enc : TypeId × Value → H) :
    ReturnsInHanded {} Try.checked os 5 .any (Rows.fragSplitsSpec.pre6 enc Try.prog Try.f5 Rows.fragSplitsRow.domain false) (Rows.fragSplitsSpec.post enc Try.prog Try.f5 false true false false) := by
  refine returnsInHanded_of_change_sized (C := Try.checked) own started (by kernel_rfl) Try.func5
    (ChangeSpec.witness6 (enc := enc) (C := Try.checked) false ⟨#[], #[.agg (encPk pkz).toArray, .int .i64 0], []⟩ 8 (by kernel_rfl) (by kernel_rfl) (by kernel_rfl) (by kernel_rfl)) ?_
  intro W base args ds gs before hval0 hW hcnd hsz0 _
  have hsz : (DataW.weightsEach Try.prog (Try.f5.params.toList ++ Rows.fragSplitsSpec.plain.varTypes Try.prog) (ds ++ gs)).all (· ≤ reachBytes) = true := hsz0
  have hval : ∀ (j : Nat) t v, Try.f5.params[j]? = some t → args[j]? = some v → Value.okWide Try.prog W .any base t v := hval0
  have hW' := hW
  obtain ⟨p, q, hA0, hV, rfl, hfz, hnd⟩ := hW
  have hA : DataW.TrodAll enc Try.prog W 0 (fun _ => true) true Try.f5.params.toList args.toList ds p := hA0
  rw [Try.params5] at hA hval hsz
  obtain ⟨v0, vs0, d0, ds0, p0, q0, hargs, rfl, rfl, h0, r0⟩ := trodAll_cons hA
  obtain ⟨v1, vs1, d1, ds1, p1, q1, rfl, rfl, rfl, h1, r1⟩ := trodAll_cons r0
  obtain ⟨rfl, rfl, rfl⟩ := trodAll_nil r1
  obtain rfl : args = #[v0, v1] := by cases args; simp_all
  obtain ⟨rfl, rfl⟩ := trodVars_none hV
  have k0 := h0
  have lt0 : ∀ x ∈ p0, x.block < W.heap.size := by obtain ⟨m, hm⟩ := k0; exact DataW.trod_lt m _ _ _ hm
  obtain ⟨l0, rfl, g0⟩ := open_flat (D := 5) (ks := ksPk) (by kernel_rfl) (by kernel_rfl) (hval 0 32 v0 rfl rfl) h0
  obtain ⟨x0, rfl, ok0⟩ := decPk l0 g0
  have k1 := h1
  have lt1 : ∀ x ∈ p1, x.block < W.heap.size := by obtain ⟨m, hm⟩ := k1; exact DataW.trod_lt m _ _ _ hm
  obtain ⟨a1, rfl, rfl, rfl, w1⟩ := open_int Try.underlying3 (hval 1 3 v1 rfl rfl) h1
  clear hA0 hval0 hsz0 hsz
  refine (FSpec.law (FragSplits_law W x0 a1 ok0)).mono fun e W' ⟨he, bel⟩ => ?_
  subst he
  exact ⟨_, rfl, _, _, _, [], _, [], hW', trodAll_mk1 (shut_bool Try.underlying4 _), (trodAll_cons_mk (Below.trod laidOut (by kernel_rfl) (of_decide_eq_true (by kernel_rfl)) k0 bel lt0) (trodAll_cons_mk (Below.trod laidOut (by kernel_rfl) (of_decide_eq_true (by kernel_rfl)) k1 bel lt1) trodAll_mk0)), rfl, bel.frame _, fun h => by cases h⟩
theorem over : Rows.fragSplitsRow.holds Try.pinned (OpenSpec.ofChange Rows.fragSplitsSpec) :=
  OpenClaim.holds_of_wide 5 Try.f5 rfl rfl rfl rfl rfl rfl rfl ⟨rfl, rfl, rfl, rfl, rfl⟩ rfl rfl rfl rfl rfl (by kernel_rfl) Try.func5 (by kernel_rfl)
    (of_decide_eq_true (by kernel_rfl)) (by unfold Func.isWrapper; first | (rw [if_pos (by decide +kernel)]; kernel_rfl) | (rw [if_neg (by decide +kernel)]; exact ⟨rfl, rfl⟩))
    (fun os started H enc _ => lifted os started H enc)
end Go.Proofs.Ytjpbpfihacfndaa.fragSplits
namespace Go.Proofs.Ytjpbpfihacfndaa
theorem fragSplits_holds : Rows.FragSplitsSaid := fragSplits.over
#print axioms fragSplits_holds
end Go.Proofs.Ytjpbpfihacfndaa
namespace Go.Proofs.Ytjpbpfihacfndaa
open Go.SLA
end Go.Proofs.Ytjpbpfihacfndaa
