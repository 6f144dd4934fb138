/- The laws MuxOrder and MuxRate of the package pitotlaw14 hold for every input: what was offered goes in order, each text when it may, and the wire carries no more than its rate. No condition. -/
import Derived.Test.YtpnpdliimidoaaaMg
import Derived.Test.YtpnpdliimidoaaaH
namespace Go.Proofs.Ytpnpdliimidoaaa
open Go.SLA
set_option maxRecDepth 100000
set_option linter.unusedVariables false
set_option linter.unusedSimpArgs false
attribute [local irreducible] J L K QL Rg FSpec OpV OpX Rd Back

theorem sched_get : ∀ (l : List (Int × ByteArray)) (i : Nat) (a : Int × ByteArray), l[i]? = some a → ∃ x, (sched l)[i]? = some x ∧ x.id = (i : Int) ∧ x.tx = a.2 ∧ x.b = (if endS (l.take i) > a.1 then endS (l.take i) else a.1) ∧ x.e = x.b + ((a.2.size : Int) + 20) ∧ x.e = endS (l.take (i + 1)) := by
  intro l
  refine snoc_ind (p := fun l => ∀ (i : Nat) (a : Int × ByteArray), l[i]? = some a → ∃ x, (sched l)[i]? = some x ∧ x.id = (i : Int) ∧ x.tx = a.2 ∧ x.b = (if endS (l.take i) > a.1 then endS (l.take i) else a.1) ∧ x.e = x.b + ((a.2.size : Int) + 20) ∧ x.e = endS (l.take (i + 1))) (fun i a h => by simp at h) (fun l a' ih i a h => ?_) l
  have hi := get_lt h
  have hsl := sched_len l
  rw [List.length_append] at hi
  simp only [List.length_cons, List.length_nil] at hi
  rw [sched_snoc]
  rcases Nat.lt_or_ge i l.length with hlt | hge
  · rw [List.getElem?_append_left hlt] at h
    rw [List.getElem?_append_left (by omega), List.take_append_of_le_length (by omega), List.take_append_of_le_length (by omega)]
    exact ih i a h
  · have e : i = l.length := by omega
    subst e
    rw [List.getElem?_append_right (Nat.le_refl _), Nat.sub_self] at h
    simp only [List.getElem?_cons_zero, Option.some.injEq] at h
    subst h
    rw [List.getElem?_append_right (by omega), show l.length - (sched l).length = 0 by omega, List.take_left, List.take_of_length_le (by simp)]
    exact ⟨_, rfl, rfl, rfl, rfl, rfl, (endS_snoc _ _).symm⟩
theorem okAll_mem : ∀ (xs : List OpM) (last : Int), 0 ≤ last → okAll last xs = true → ∀ x ∈ xs, 0 ≤ x.now ∧ x.now ≤ 281474976710656 ∧ (x.text.size : Int) ≤ 1518
  | [], _, _, _, x, hx => by simp at hx
  | y :: xs, last, h0, h, x, hx => by
    simp only [okAll, Bool.and_eq_true, decide_eq_true_eq] at h
    rcases List.mem_cons.1 hx with rfl | hx
    · omega
    · exact okAll_mem xs y.now (by omega) h.2 x hx
def OkO (l : List (Int × ByteArray)) : Prop := ∀ a ∈ l, 0 ≤ a.1 ∧ a.1 ≤ 281474976710656 ∧ (a.2.size : Int) ≤ 1518
theorem OkO.get {l : List (Int × ByteArray)} (h : OkO l) {i : Nat} {a : Int × ByteArray} (hi : l[i]? = some a) : 0 ≤ a.1 ∧ a.1 ≤ 281474976710656 ∧ (a.2.size : Int) ≤ 1518 := h a (List.mem_of_getElem? hi)
theorem OkO.take {l : List (Int × ByteArray)} (h : OkO l) (k : Nat) : OkO (l.take k) := fun a ha => h a (List.mem_of_mem_take ha)
theorem right_offs {xs : List OpM} (h : rightB xs = true) : OkO (offs xs) ∧ (offs xs).length ≤ 100 := by
  rw [rightB, Bool.and_eq_true, decide_eq_true_eq] at h
  refine ⟨fun a ha => ?_, ?_⟩
  · unfold offs at ha
    obtain ⟨x, hx, e⟩ := List.mem_filterMap.1 ha
    have := okAll_mem xs 0 (Int.le_refl _) h.1 x hx
    split at e
    · cases e
    · cases e
      exact this
  · have := offs_len xs xs.length
    rw [List.take_length] at this
    omega
theorem endS_bound {l : List (Int × ByteArray)} : OkO l → 0 ≤ endS l ∧ endS l ≤ 281474976710656 + 1538 * l.length := by
  refine snoc_ind (p := fun l => OkO l → 0 ≤ endS l ∧ endS l ≤ 281474976710656 + 1538 * l.length) (fun _ => ⟨Int.le_refl _, by show (0 : Int) ≤ _; simp⟩) (fun l a ih h => ?_) l
  have h1 := ih (fun x hx => h x (List.mem_append_left _ hx))
  have h2 := h a (List.mem_append_right _ (List.mem_singleton.2 rfl))
  rw [endS_snoc, List.length_append]
  simp only [List.length_cons, List.length_nil]
  split <;> omega
theorem right_yes (R0 : HProp) (A : Option Addr) (c : Nat) (xs : List OpM) (hR : RdS R0 encOp 4 A xs) (hn : xs.length ≤ 9223372036854775807) (h : rightB xs = true) : FSpec Try.prog 15 #[.slice A xs.length c] R0 (fun _ : Unit => True) (fun _ => .bool true) (fun _ => R0) := by
  have := right_spec R0 A c xs hR hn
  rwa [h] at this
theorem right_no (R0 : HProp) (A : Option Addr) (c : Nat) (xs : List OpM) (hR : RdS R0 encOp 4 A xs) (hn : xs.length ≤ 9223372036854775807) (h : rightB xs = false) : FSpec Try.prog 15 #[.slice A xs.length c] R0 (fun _ : Unit => True) (fun _ => .bool false) (fun _ => R0) := by
  have := right_spec R0 A c xs hR hn
  rwa [h] at this
def encI (a : Int × ByteArray) : List Value := [.int .i64 a.1]
theorem encI_len (a : Int × ByteArray) : (encI a).length = 1 := rfl
theorem ints_flat (l : List (Int × ByteArray)) : ints l = l.flatMap encI := by
  unfold ints
  induction l with
  | nil => rfl
  | cons a l ih => rw [List.map_cons, List.flatMap_cons, ih]; rfl
/-- What the way of the offered texts over the wire answers. -/
theorem gone_ok (R0 : HProp) (A : Option Addr) (c : Nat) (xs : List OpM) (hR : RdS R0 encOp 4 A xs) (hr : rightB xs = true) : FSpec Try.prog 17 #[.slice A xs.length c] R0 (fun _ : (Option Addr × Nat) × (Option Addr × Nat) => True)
    (fun r => .tuple #[.slice r.1.1 (sched (offs xs)).length r.1.2, .slice r.2.1 (offs xs).length r.2.2, .bool true])
    (fun r => (sep (R0) (sep (Own 30 4 (.slice r.1.1 (sched (offs xs)).length r.1.2) (sched (offs xs)).length ((sched (offs xs)).flatMap enc)) (Own 3 1 (.slice r.2.1 (offs xs).length r.2.2) (offs xs).length ((offs xs).flatMap encI))))) := by
  have := gone_spec R0 A c xs hR hr
  rwa [ints_flat] at this

theorem MuxOrder_no (W : World) (A : Option Addr) (c : Nat) (xs : List OpM) (hR : RdS (old W) encOp 4 A xs) (hn : xs.length ≤ 9223372036854775807) (hr : rightB xs = false) : FSpec Try.prog 3 #[.slice A xs.length c] (old W) (fun _ : Unit => True) (fun _ => .bool true) (fun _ => old W) := by
  refine FSpec.enter' Try.func3 rfl Try.ntmps3 rfl fun σ F => ?_
  refine J_seq ?_
  refine J_region ?_
  refine L_v (opv_assign rfl) rfl ?_
  refine L_nil ?_
  refine K_then ?_
  refine J_seq ?_
  refine J_seq ?_
  refine J_region ?_
  refine L_v (opv_move rfl) rfl ?_
  refine L_x rfl (opx_call0 (right_no (old W) A c xs hR hn hr) rfl rfl rfl) (fun _ _ => ?_)
  refine L_v (opv_not rfl) rfl ?_
  refine L_nil ?_
  refine K_then ?_
  refine J_cond_true rfl ?_
  refine J_seq ?_
  refine J_region ?_
  refine L_x rfl (opx_call0 (awake_spec) rfl rfl rfl) (fun _ _ => ?_)
  refine L_emp ?_
  refine L_v (opv_assign rfl) rfl ?_
  refine L_nil ?_
  refine K_then ?_
  refine J_ret ?_
  refine K_then_ret ?_
  exact K_ret1 rfl rfl () trivial (rfl) (Ent.refl _)

theorem MuxOrder_yes (W : World) (A : Option Addr) (c : Nat) (xs : List OpM) (hR : RdS (old W) encOp 4 A xs) (hn : xs.length ≤ 9223372036854775807) (hr : rightB xs = true) : FSpec Try.prog 3 #[.slice A xs.length c] (old W) (fun _ : Unit => True) (fun _ => .bool true) (fun _ => old W) := by
  have hok := right_offs hr
  refine FSpec.enter' Try.func3 rfl Try.ntmps3 rfl fun σ F => ?_
  refine J_seq ?_
  refine J_region ?_
  refine L_v (opv_assign rfl) rfl ?_
  refine L_nil ?_
  refine K_then ?_
  refine J_seq ?_
  refine J_seq ?_
  refine J_region ?_
  refine L_v (opv_move rfl) rfl ?_
  refine L_x rfl (opx_call0 (right_yes (old W) A c xs hR hn hr) rfl rfl rfl) (fun _ _ => ?_)
  refine L_v (opv_not rfl) rfl ?_
  refine L_nil ?_
  refine K_then ?_
  refine J_cond_false rfl ?_
  refine J_skip ?_
  refine K_then ?_
  refine J_seq ?_
  refine J_region ?_
  refine L_v (opv_move rfl) rfl ?_
  refine L_x rfl (opx_call0 (gone_ok (old W) A c xs hR hr) rfl rfl rfl) (fun r _ => ?_)
  refine L_v (opv_move rfl) rfl ?_
  refine L_v (opv_extract rfl rfl) rfl ?_
  refine L_v (opv_extract rfl rfl) rfl ?_
  refine L_v (opv_extract rfl rfl) rfl ?_
  refine L_v (opv_assign rfl) rfl ?_
  refine L_v (opv_assign rfl) rfl ?_
  refine L_v (opv_assign rfl) rfl ?_
  refine L_nil ?_
  refine K_then ?_
  refine J_seq ?_
  refine J_seq ?_
  obtain ⟨⟨A1, c1⟩, ⟨A2, c2⟩⟩ := r
  have hol := hok.2
  have hsl := sched_len (offs xs)
  refine J_imp (sep (Own 30 4 (.slice A1 (sched (offs xs)).length c1) (sched (offs xs)).length ((sched (offs xs)).flatMap enc)) (sep (old W) (sep (Own 3 1 (.slice A2 (offs xs).length c2) (offs xs).length ((offs xs).flatMap encI)) (F)))) ?_ ?_
  · exact Ent.takes
  refine J_know (fun w hs => own_nonnil hs) fun hA1 => ?_
  refine J_know (fun w hs => own_nonnil hs.drop.drop) fun hA2 => ?_
  refine J_region ?_
  refine L_v (opv_move rfl) rfl ?_
  refine L_v (opv_not rfl) rfl ?_
  refine L_v (opv_move rfl) rfl ?_
  refine L_gon rfl rfl rfl ?_
  refine L_v (opv_move rfl) rfl ?_
  refine L_gon rfl rfl rfl ?_
  first
    | refine L_v (opv_lenL rfl) rfl ?_
    | refine L_v (opv_lenS rfl) rfl ?_
  refine L_gon rfl rfl rfl ?_
  refine L_v (opv_move rfl) rfl ?_
  refine L_gon rfl rfl rfl ?_
  first
    | refine L_v (opv_lenL rfl) rfl ?_
    | refine L_v (opv_lenS rfl) rfl ?_
  refine L_gon rfl rfl rfl ?_
  first
    | refine L_v (opv_neq rfl rfl) rfl ?_
    | refine L_v (opv_neqS rfl rfl) rfl ?_
    | refine L_v (opv_neqNil rfl rfl) rfl ?_
    | refine L_v (opv_neqB rfl rfl) rfl ?_
  first
    | refine L_v (opv_pick_tt rfl rfl) rfl ?_
    | refine L_v (opv_pick_ff rfl rfl) rfl ?_
    | refine L_v (opv_pick rfl rfl rfl) rfl ?_
  refine L_nil ?_
  refine K_then ?_
  refine J_cond rfl (fun h1 => absurd (by omega) h1) (fun h1 => ?_)
  refine J_skip ?_
  refine K_then ?_
  refine J_seq ?_
  refine J_region ?_
  refine L_v (opv_assign rfl) rfl ?_
  refine L_nil ?_
  refine K_then ?_
  refine J_seq ?_
  refine J_seq ?_
  refine J_region ?_
  refine L_v (opv_assign rfl) rfl ?_
  refine L_nil ?_
  refine K_then ?_
  refine J_block ?_
  refine J_loop (X := Nat × Int) (fun y => [(3, .slice A1 (sched (offs xs)).length c1), (4, .slice A2 (offs xs).length c2), (6, .int .i64 y.2), (7, .int .i64 y.1)]) (fun y => (sep (Own 30 4 (.slice A1 (sched (offs xs)).length c1) (sched (offs xs)).length ((sched (offs xs)).flatMap enc)) (sep (old W) (sep (Own 3 1 (.slice A2 (offs xs).length c2) (offs xs).length ((offs xs).flatMap encI)) (F))))) (fun y => y.1 ≤ (offs xs).length ∧ y.2 = endS ((offs xs).take y.1)) (fun y => (offs xs).length - y.1) ((0, 0)) ⟨Nat.zero_le _, rfl⟩ ⟨rfl, rfl, rfl, rfl, trivial⟩ (Ent.refl _) (fun y hy => ?_)
  obtain ⟨hk, hy⟩ := hy
  refine J_seq ?_
  refine J_seq ?_
  refine J_region ?_
  refine L_v (opv_move rfl) rfl ?_
  refine L_v (opv_move rfl) rfl ?_
  first
    | refine L_v (opv_lenL rfl) rfl ?_
    | refine L_v (opv_lenS rfl) rfl ?_
  refine L_v (opv_lss rfl rfl) rfl ?_
  refine L_nil ?_
  refine K_then ?_
  refine J_cond rfl (fun h2 => ?_) (fun h2 => ?_)
  · have hkl : y.1 < (offs xs).length := by omega
    obtain ⟨a, ha⟩ : ∃ a, (offs xs)[y.1]? = some a := ⟨_, List.getElem?_eq_getElem hkl⟩
    obtain ⟨x, hx, hx1, hx2, hx3, hx4, hx5⟩ := sched_get _ _ _ ha
    have hoa := hok.1.get ha
    have heb := endS_bound (hok.1.take y.1)
    have htl := List.length_take_le y.1 (offs xs)
    have hbb : 0 ≤ x.b ∧ x.b ≤ 281474976710656 + 1538 * ((offs xs).take y.1).length := by rw [hx3]; split <;> omega
    obtain ⟨b1, o1, rfl⟩ : ∃ b o, A1 = some (ad b o) := by rcases hA1 with ⟨_, _, h, _⟩ | h; omega; exact h
    obtain ⟨b2, o2, rfl⟩ : ∃ b o, A2 = some (ad b o) := by rcases hA2 with ⟨_, _, h, _⟩ | h; omega; exact h
    refine J_skip ?_
    refine K_then ?_
    refine J_seq ?_
    refine J_block ?_
    refine J_seq ?_
    refine J_seq ?_
    refine J_quiet Try.mixed (by kernel_rfl) ?_
    refine Q_v (opv_move rfl) rfl ?_
    refine Q_v (opv_move rfl) rfl ?_
    first
      | refine Q_v (opv_indexAddr rfl rfl (by omega)) rfl ?_
      | refine Q_v (opv_indexAddrA rfl rfl (by omega)) rfl ?_
    first
      | refine Q_v (opv_fieldAddr0 rfl) rfl ?_
      | refine Q_v (opv_fieldAddr rfl) rfl ?_
    refine Q_v (opv_load rfl (Rd.of_take (S := Own 30 4 (.slice (some (ad b1 o1)) (sched (offs xs)).length c1) (sched (offs xs)).length ((sched (offs xs)).flatMap enc)) ((RdS.own (m := 4) (e := 30) (c := c1) enc_len (.inr ⟨b1, o1, rfl⟩)).rd b1 o1 rfl y.1 x 0 _ hx rfl))) rfl ?_
    refine Q_v (opv_move rfl) rfl ?_
    first
      | refine Q_v (opv_neq rfl rfl) rfl ?_
      | refine Q_v (opv_neqS rfl rfl) rfl ?_
      | refine Q_v (opv_neqNil rfl rfl) rfl ?_
      | refine Q_v (opv_neqB rfl rfl) rfl ?_
    refine Q_v (opv_move rfl) rfl ?_
    refine Q_gf rfl rfl (fun h3 => ?_) (fun h3 => absurd hx1 h3) (fun _ h => by cases h; rfl)
    refine Q_v (opv_move rfl) rfl ?_
    refine Q_gf_on h3 rfl rfl ?_
    refine Q_v (opv_move rfl) rfl ?_
    refine Q_gf_on h3 rfl rfl ?_
    first
      | refine Q_v (opv_indexAddr rfl rfl (by omega)) rfl ?_
      | refine Q_v (opv_indexAddrA rfl rfl (by omega)) rfl ?_
    refine Q_gf_on h3 rfl rfl ?_
    first
      | refine Q_v (opv_fieldAddr0 rfl) rfl ?_
      | refine Q_v (opv_fieldAddr rfl) rfl ?_
    refine Q_gf_on h3 rfl rfl ?_
    refine Q_v (opv_load rfl (Rd.of_take (S := Own 30 4 (.slice (some (ad b1 o1)) (sched (offs xs)).length c1) (sched (offs xs)).length ((sched (offs xs)).flatMap enc)) ((RdS.own (m := 4) (e := 30) (c := c1) enc_len (.inr ⟨b1, o1, rfl⟩)).rd b1 o1 rfl y.1 x 2 _ hx rfl))) rfl ?_
    refine Q_gf_on h3 rfl rfl ?_
    refine Q_v (opv_move rfl) rfl ?_
    refine Q_gf_on h3 rfl rfl ?_
    refine Q_v (opv_move rfl) rfl ?_
    refine Q_gf_on h3 rfl rfl ?_
    first
      | refine Q_v (opv_indexAddr rfl rfl (by omega)) rfl ?_
      | refine Q_v (opv_indexAddrA rfl rfl (by omega)) rfl ?_
    refine Q_gf_on h3 rfl rfl ?_
    refine Q_v (opv_load rfl (Rd.of_take (S := Own 3 1 (.slice (some (ad b2 o2)) (offs xs).length c2) (offs xs).length ((offs xs).flatMap encI)) ((RdS.own (m := 1) (e := 3) (c := c2) encI_len (.inr ⟨b2, o2, rfl⟩)).rd b2 o2 rfl y.1 a 0 _ ha rfl))) rfl ?_
    refine Q_gf_on h3 rfl rfl ?_
    refine Q_v (opv_move rfl) rfl ?_
    refine Q_gf_on h3 rfl rfl ?_
    refine Q_v (opv_max rfl rfl) rfl ?_
    refine Q_gf_on h3 rfl rfl ?_
    first
      | refine Q_v (opv_neq rfl rfl) rfl ?_
      | refine Q_v (opv_neqS rfl rfl) rfl ?_
      | refine Q_v (opv_neqNil rfl rfl) rfl ?_
      | refine Q_v (opv_neqB rfl rfl) rfl ?_
    refine Q_v (opv_pick_f rfl h3 rfl) rfl ?_
    refine Q_v (opv_move rfl) rfl ?_
    refine Q_gf rfl rfl (fun h4 => ?_) (fun h4 => absurd (by rw [hy]; exact hx3) h4) (fun _ h => by cases h; rfl)
    refine Q_v (opv_move rfl) rfl ?_
    refine Q_gf_on h4 rfl rfl ?_
    refine Q_v (opv_move rfl) rfl ?_
    refine Q_gf_on h4 rfl rfl ?_
    first
      | refine Q_v (opv_indexAddr rfl rfl (by omega)) rfl ?_
      | refine Q_v (opv_indexAddrA rfl rfl (by omega)) rfl ?_
    refine Q_gf_on h4 rfl rfl ?_
    first
      | refine Q_v (opv_fieldAddr0 rfl) rfl ?_
      | refine Q_v (opv_fieldAddr rfl) rfl ?_
    refine Q_gf_on h4 rfl rfl ?_
    refine Q_v (opv_load rfl (Rd.of_take (S := Own 30 4 (.slice (some (ad b1 o1)) (sched (offs xs)).length c1) (sched (offs xs)).length ((sched (offs xs)).flatMap enc)) ((RdS.own (m := 4) (e := 30) (c := c1) enc_len (.inr ⟨b1, o1, rfl⟩)).rd b1 o1 rfl y.1 x 3 _ hx rfl))) rfl ?_
    refine Q_gf_on h4 rfl rfl ?_
    refine Q_v (opv_move rfl) rfl ?_
    refine Q_gf_on h4 rfl rfl ?_
    refine Q_v (opv_move rfl) rfl ?_
    refine Q_gf_on h4 rfl rfl ?_
    first
      | refine Q_v (opv_indexAddr rfl rfl (by omega)) rfl ?_
      | refine Q_v (opv_indexAddrA rfl rfl (by omega)) rfl ?_
    refine Q_gf_on h4 rfl rfl ?_
    first
      | refine Q_v (opv_fieldAddr0 rfl) rfl ?_
      | refine Q_v (opv_fieldAddr rfl) rfl ?_
    refine Q_gf_on h4 rfl rfl ?_
    refine Q_v (opv_load rfl (Rd.of_take (S := Own 30 4 (.slice (some (ad b1 o1)) (sched (offs xs)).length c1) (sched (offs xs)).length ((sched (offs xs)).flatMap enc)) ((RdS.own (m := 4) (e := 30) (c := c1) enc_len (.inr ⟨b1, o1, rfl⟩)).rd b1 o1 rfl y.1 x 2 _ hx rfl))) rfl ?_
    refine Q_gf_on h4 rfl rfl ?_
    refine Q_v (opv_move rfl) rfl ?_
    refine Q_gf_on h4 rfl rfl ?_
    refine Q_v (opv_move rfl) rfl ?_
    refine Q_gf_on h4 rfl rfl ?_
    first
      | refine Q_v (opv_indexAddr rfl rfl (by omega)) rfl ?_
      | refine Q_v (opv_indexAddrA rfl rfl (by omega)) rfl ?_
    refine Q_gf_on h4 rfl rfl ?_
    first
      | refine Q_v (opv_fieldAddr0 rfl) rfl ?_
      | refine Q_v (opv_fieldAddr rfl) rfl ?_
    refine Q_gf_on h4 rfl rfl ?_
    refine Q_v (opv_load rfl (Rd.of_take (S := Own 30 4 (.slice (some (ad b1 o1)) (sched (offs xs)).length c1) (sched (offs xs)).length ((sched (offs xs)).flatMap enc)) ((RdS.own (m := 4) (e := 30) (c := c1) enc_len (.inr ⟨b1, o1, rfl⟩)).rd b1 o1 rfl y.1 x 1 _ hx rfl))) rfl ?_
    refine Q_gf_on h4 rfl rfl ?_
    first
      | refine Q_v (opv_lenL rfl) rfl ?_
      | refine Q_v (opv_lenS rfl) rfl ?_
    have hx6 : x.tx.size = a.2.size := by rw [hx2]
    refine Q_gf_on h4 rfl rfl ?_
    first
      | refine Q_v (opv_add64 rfl rfl (by omega)) rfl ?_
      | refine Q_v (opv_addS rfl rfl (by omega)) rfl ?_
      | refine Q_v (opv_add rfl rfl) rfl ?_
    refine Q_gf_on h4 rfl rfl ?_
    first
      | refine Q_v (opv_add64 rfl rfl (by omega)) rfl ?_
      | refine Q_v (opv_addS rfl rfl (by omega)) rfl ?_
      | refine Q_v (opv_add rfl rfl) rfl ?_
    refine Q_gf_on h4 rfl rfl ?_
    first
      | refine Q_v (opv_neq rfl rfl) rfl ?_
      | refine Q_v (opv_neqS rfl rfl) rfl ?_
      | refine Q_v (opv_neqNil rfl rfl) rfl ?_
      | refine Q_v (opv_neqB rfl rfl) rfl ?_
    refine Q_v (opv_pick_f rfl h4 rfl) rfl ?_
    refine QL_nil ?_
    refine K_then ?_
    refine J_cond rfl (fun h5 => absurd (by show x.e = x.b + (x.tx.size : Int) + 20; rw [hx2]; omega) h5) (fun h5 => ?_)
    refine J_skip ?_
    refine K_then ?_
    refine J_region ?_
    refine L_v (opv_move rfl) rfl ?_
    refine L_v (opv_move rfl) rfl ?_
    first
      | refine L_v (opv_indexAddr rfl rfl (by omega)) rfl ?_
      | refine L_v (opv_indexAddrA rfl rfl (by omega)) rfl ?_
    first
      | refine L_v (opv_fieldAddr0 rfl) rfl ?_
      | refine L_v (opv_fieldAddr rfl) rfl ?_
    refine L_v (opv_load rfl (Rd.of_take (S := Own 30 4 (.slice (some (ad b1 o1)) (sched (offs xs)).length c1) (sched (offs xs)).length ((sched (offs xs)).flatMap enc)) ((RdS.own (m := 4) (e := 30) (c := c1) enc_len (.inr ⟨b1, o1, rfl⟩)).rd b1 o1 rfl y.1 x 3 _ hx rfl))) rfl ?_
    refine L_v (opv_assign rfl) rfl ?_
    refine L_nil ?_
    refine K_block ?_
    refine K_then ?_
    refine J_region ?_
    refine L_v (opv_move rfl) rfl ?_
    first
      | refine L_v (opv_add64 rfl rfl (by omega)) rfl ?_
      | refine L_v (opv_addS rfl rfl (by omega)) rfl ?_
      | refine L_v (opv_add rfl rfl) rfl ?_
    refine L_v (opv_assign rfl) rfl ?_
    refine L_nil ?_
    exact K_loop ((y.1 + 1, x.e)) ⟨by show y.1 + 1 ≤ _; omega, hx5⟩ (by show _ - (y.1 + 1) < _; omega) ⟨rfl, rfl, rfl, rfl, trivial⟩ (Ent.refl _)
  · refine J_exit ?_
    refine K_then_exit ?_
    refine K_then_exit ?_
    refine K_block_here ?_
    refine K_then ?_
    refine J_seq ?_
    refine J_region ?_
    refine L_x rfl (opx_call0 (awake_spec) rfl rfl rfl) (fun _ _ => ?_)
    refine L_emp ?_
    refine L_v (opv_assign rfl) rfl ?_
    refine L_nil ?_
    refine K_then ?_
    refine J_ret ?_
    exact K_ret1 rfl rfl () trivial (rfl) (Ent.trans Ent.take (Ent.refl _))


theorem MuxOrder_law (W : World) (A : Option Addr) (len c : Nat) (xs : List OpM) (h : ArrIn W encOp 4 A len xs) (hl : len ≤ c) (hc : c ≤ maxLen) : FSpec Try.prog 3 #[.slice A len c] (old W) (fun _ : Unit => True) (fun _ => .bool true) (fun _ => old W) := by
  have e := h.1
  subst e
  have hn : xs.length ≤ 9223372036854775807 := by unfold maxLen at hc; omega
  cases hr : rightB xs with
  | false => exact MuxOrder_no W A c xs (RdS.old h) hn hr
  | true => exact MuxOrder_yes W A c xs (RdS.old h) hn hr

end Go.Proofs.Ytpnpdliimidoaaa
namespace Go.Proofs.Ytpnpdliimidoaaa.muxOrder
open Go.ChangeShapes Go.WideShapes Go.ChangeAt Go.RowKit Go.SLA
open Go.ChangeMaps (open_string shut_string)
set_option linter.unusedVariables false
theorem own : ownKnob Try.prog.godebug = none := by kernel_rfl
theorem laidOut : laidOutB Try.prog = true := by kernel_rfl
set_option maxRecDepth 100000 in
theorem lifted (os : Os) (started : os.Started) (H : Type) (enc : TypeId × Value → H) :
    ReturnsInHanded {} Try.checked os 3 .any (Rows.muxOrderSpec.pre6 enc Try.prog Try.f3 Rows.muxOrderRow.domain false) (Rows.muxOrderSpec.post enc Try.prog Try.f3 false true false false) := by
  refine returnsInHanded_of_change_sized (C := Try.checked) own started (by kernel_rfl) Try.func3
    (ChangeSpec.witness6 (enc := enc) (C := Try.checked) false ⟨#[], #[.slice none 0 0], []⟩ 8 (by kernel_rfl) (by kernel_rfl) (by kernel_rfl) (by kernel_rfl)) ?_
  intro W base args ds gs before hval0 hW hcnd hsz0 _
  have hsz : (DataW.weightsEach Try.prog (Try.f3.params.toList ++ Rows.muxOrderSpec.plain.varTypes Try.prog) (ds ++ gs)).all (· ≤ reachBytes) = true := hsz0
  have hval : ∀ (j : Nat) t v, Try.f3.params[j]? = some t → args[j]? = some v → Value.okWide Try.prog W .any base t v := hval0
  have hW' := hW
  obtain ⟨p, q, hA0, hV, rfl, hfz, hnd⟩ := hW
  have hA : DataW.TrodAll enc Try.prog W 0 (fun _ => true) true Try.f3.params.toList args.toList ds p := hA0
  rw [Try.params3] at hA hval hsz
  obtain ⟨v0, vs0, d0, ds0, p0, q0, hargs, rfl, rfl, h0, r0⟩ := trodAll_cons hA
  obtain ⟨rfl, rfl, rfl⟩ := trodAll_nil r0
  obtain rfl : args = #[v0] := by cases args; simp_all
  obtain ⟨rfl, rfl⟩ := trodVars_none hV
  have k0 := h0
  have lt0 : ∀ x ∈ p0, x.block < W.heap.size := by obtain ⟨m, hm⟩ := k0; exact DataW.trod_lt m _ _ _ hm
  obtain ⟨A0, len0, cap0, xs0, rfl, hl0, hc0, harr0, hok0⟩ := open_arr (D := 3) (ks := ksOp) (en := encOp) (ok := okOp) Try.underlying22 (by kernel_rfl) (by kernel_rfl) (by decide) (fun cs h => decOp cs h) (hval 0 22 v0 rfl rfl) h0
  clear hA0 hval0 hsz0 hsz
  refine (FSpec.law (MuxOrder_law W A0 len0 cap0 xs0 harr0 hl0 hc0)).mono fun e W' ⟨he, bel⟩ => ?_
  subst he
  exact ⟨_, rfl, _, _, _, [], _, [], hW', trodAll_mk1 (shut_bool Try.underlying4 _), (trodAll_cons_mk (Below.trod laidOut (by kernel_rfl) (of_decide_eq_true (by kernel_rfl)) k0 bel lt0) trodAll_mk0), rfl, bel.frame _, fun h => by cases h⟩
theorem over : Rows.muxOrderRow.holds Try.pinned (OpenSpec.ofChange Rows.muxOrderSpec) :=
  OpenClaim.holds_of_wide 3 Try.f3 rfl rfl rfl rfl rfl rfl rfl ⟨rfl, rfl, rfl, rfl, rfl⟩ rfl rfl rfl rfl rfl (by kernel_rfl) Try.func3 (by kernel_rfl)
    (of_decide_eq_true (by kernel_rfl)) (by unfold Func.isWrapper; first | (rw [if_pos (by decide +kernel)]; kernel_rfl) | (rw [if_neg (by decide +kernel)]; exact ⟨rfl, rfl⟩))
    (fun os started H enc _ => lifted os started H enc)
end Go.Proofs.Ytpnpdliimidoaaa.muxOrder
namespace Go.Proofs.Ytpnpdliimidoaaa
theorem muxOrder_holds : Rows.MuxOrderSaid := muxOrder.over
#print axioms muxOrder_holds
end Go.Proofs.Ytpnpdliimidoaaa
namespace Go.Proofs.Ytpnpdliimidoaaa
open Go.SLA
end Go.Proofs.Ytpnpdliimidoaaa
