/- Contracts of functions of the translation, each proved by a walk over its code; they are used by the texts that import this one. -/
import Derived.Test.YtpnpdliimidoaaaMf
import Derived.Test.YtpnpdliimidoaaaH
namespace Go.Proofs.Ytpnpdliimidoaaa
open Go.SLA
set_option maxRecDepth 100000
set_option linter.unusedVariables false
set_option linter.unusedSimpArgs false
attribute [local irreducible] J L K QL Rg FSpec OpV OpX Rd Back

/-- One more text on the wire. -/
def stepS (s : List Sn × Int) (a : Int × ByteArray) : List Sn × Int :=
  (s.1 ++ [⟨s.1.length, a.2, if s.2 > a.1 then s.2 else a.1, (if s.2 > a.1 then s.2 else a.1) + ((a.2.size : Int) + 20)⟩], (if s.2 > a.1 then s.2 else a.1) + ((a.2.size : Int) + 20))
def runS (l : List (Int × ByteArray)) : List Sn × Int := l.foldl stepS ([], 0)
/-- What goes of what is offered, and when the wire is free behind it. -/
def sched (l : List (Int × ByteArray)) : List Sn := (runS l).1
def endS (l : List (Int × ByteArray)) : Int := (runS l).2
def offs (xs : List OpM) : List (Int × ByteArray) := xs.filterMap fun x => if x.pass then none else some (x.now, x.text)
theorem runS_snoc (l : List (Int × ByteArray)) (a : Int × ByteArray) : runS (l ++ [a]) = stepS (runS l) a := by unfold runS; rw [List.foldl_append]; rfl
theorem snoc_ind {α : Type} {p : List α → Prop} (h0 : p []) (h1 : ∀ l a, p l → p (l ++ [a])) (l : List α) : p l := by
  have : ∀ n l, List.length l = n → p l := by
    intro n
    induction n with
    | zero => intro l hl; rw [List.eq_nil_of_length_eq_zero hl]; exact h0
    | succ n ih =>
      intro l hl
      have hne : l ≠ [] := by rintro rfl; simp at hl
      rw [← List.dropLast_concat_getLast hne]
      exact h1 _ _ (ih _ (by rw [List.length_dropLast]; omega))
  exact this _ l rfl
theorem sched_len (l : List (Int × ByteArray)) : (sched l).length = l.length := by
  refine snoc_ind (p := fun l => (sched l).length = l.length) rfl (fun l a ih => ?_) l
  unfold sched at *
  rw [runS_snoc, stepS, List.length_append, ih, List.length_append]
  rfl
theorem sched_snoc (l : List (Int × ByteArray)) (a : Int × ByteArray) : sched (l ++ [a]) = sched l ++ [⟨l.length, a.2, if endS l > a.1 then endS l else a.1, (if endS l > a.1 then endS l else a.1) + ((a.2.size : Int) + 20)⟩] := by
  have := sched_len l
  unfold sched endS at *
  rw [runS_snoc, stepS, this]
theorem endS_snoc (l : List (Int × ByteArray)) (a : Int × ByteArray) : endS (l ++ [a]) = (if endS l > a.1 then endS l else a.1) + ((a.2.size : Int) + 20) := by
  unfold endS
  rw [runS_snoc, stepS]
theorem sched_le (l : List (Int × ByteArray)) : ∀ x ∈ sched l, x.e ≤ endS l := by
  refine snoc_ind (p := fun l => ∀ x ∈ sched l, x.e ≤ endS l) (fun x hx => by simp [sched, runS] at hx) (fun l a ih x hx => ?_) l
  rw [sched_snoc] at hx
  rw [endS_snoc]
  rcases List.mem_append.1 hx with hx | hx
  · have := ih x hx
    split <;> omega
  · simp only [List.mem_singleton] at hx
    subst hx
    exact Int.le_refl _
theorem offs_pass {xs : List OpM} {k : Nat} {x : OpM} (hx : xs[k]? = some x) (hp : x.pass = true) : offs (xs.take (k + 1)) = offs (xs.take k) := by
  have hk := get_lt hx
  rw [List.getElem?_eq_getElem hk] at hx
  simp only [Option.some.injEq] at hx
  unfold offs
  rw [List.take_succ_eq_append_getElem hk, hx, List.filterMap_append]
  simp [hp]
theorem offs_offer {xs : List OpM} {k : Nat} {x : OpM} (hx : xs[k]? = some x) (hp : x.pass = false) : offs (xs.take (k + 1)) = offs (xs.take k) ++ [(x.now, x.text)] := by
  have hk := get_lt hx
  rw [List.getElem?_eq_getElem hk] at hx
  simp only [Option.some.injEq] at hx
  unfold offs
  rw [List.take_succ_eq_append_getElem hk, hx, List.filterMap_append]
  simp [hp]
theorem offs_len (xs : List OpM) (k : Nat) : (offs (xs.take k)).length ≤ k := by
  have h1 := List.length_filterMap_le (fun x : OpM => if x.pass then none else some (x.now, x.text)) (xs.take k)
  have h2 := List.length_take_le k xs
  unfold offs
  omega
theorem Offer_ok (p : Nat) (q : List Sn) (cur free now id : Int) (text : ByteArray) (hf : 0 ≤ free ∧ free ≤ 2000000000000000000) (h : tim cur now = 0) (hs : ¬ 1518 < (text.size : Int)) (hq : ¬ 4096 ≤ (q.length : Int)) : FSpec Try.prog 19 #[.pointer (some (ad p 0)), .int .i64 now, .int .i64 id, .string text] (LineP p q cur free) (fun _ : Unit => True)
    (fun _ => .int .i64 0) (fun _ => LineP p (q ++ [⟨id, text, if free > now then free else now, (if free > now then free else now) + ((text.size : Int) + 20)⟩]) now ((if free > now then free else now) + ((text.size : Int) + 20))) := by
  have hb : 0 ≤ now ∧ now ≤ 1125899906842624 := by
    unfold tim at h
    split at h
    · cases h
    · omega
  have := Offer_spec p q cur free now id text hf (by omega)
  rwa [offer_d (by rw [h]; decide) hs hq] at this
theorem tim_ok {cur now : Int} (h0 : 0 ≤ cur) (h1 : ¬ now < cur) (h2 : ¬ 281474976710656 < now) : tim cur now = 0 := by
  unfold tim
  rw [if_neg (by omega), if_neg (by omega)]
theorem fst_all {q : List Sn} {now : Int} (h : ∀ x ∈ q, x.e ≤ now) : fst q now = q.length := by
  have := fst_le q now
  rcases Nat.lt_or_ge (fst q now) q.length with hl | hl
  · exfalso
    have hlt : q.findIdx (fun x => decide (now < x.e)) < q.length := hl
    have h1 := List.findIdx_getElem (w := hlt)
    have h2 := h _ (List.getElem_mem hlt)
    simp only [decide_eq_true_eq] at h1
    omega
  · omega
theorem Pass_all (p : Nat) (q : List Sn) (cur free now : Int) (h : tim cur now = 0) (hq : q.length ≤ 9000000000000000000) (he : ∀ x ∈ q, x.e ≤ now) : FSpec Try.prog 20 #[.pointer (some (ad p 0)), .int .i64 now] (LineP p q cur free) (fun _ : Option Addr × Nat => True)
    (fun x => .tuple #[.slice x.1 q.length x.2, .int .i64 0]) (fun x => GoneP p x q [] now free) := by
  have := Pass_ok p q cur free now h hq
  rwa [fst_all he, List.take_length, List.drop_length] at this
structure GS where
  k : Nat
  q : List Sn
  all : List Sn
  cur : Int
  v : Option Addr × Nat
  u : Option Addr × Nat
def ints (l : List (Int × ByteArray)) : List Value := l.map fun a => .int .i64 a.1
theorem ints_snoc (l : List (Int × ByteArray)) (a : Int × ByteArray) : ints l ++ [.int .i64 a.1] = ints (l ++ [a]) := by simp [ints]
theorem ints_len (l : List (Int × ByteArray)) : (ints l).length = l.length := by simp [ints]

theorem flat_one (q : List Sn) : ∀ u ∈ flat q, u.oneCell' = true := by
  intro u hu
  obtain ⟨x, _, hx⟩ := List.mem_flatMap.1 hu
  simp only [enc, List.mem_cons, List.not_mem_nil, or_false] at hx
  rcases hx with rfl | rfl | rfl | rfl <;> rfl

theorem gone_spec (R0 : HProp) (A : Option Addr) (c : Nat) (xs : List OpM) (hR : RdS R0 encOp 4 A xs) (hr : rightB xs = true) : FSpec Try.prog 17 #[.slice A xs.length c] (R0) (fun r : (Option Addr × Nat) × (Option Addr × Nat) => True) (fun r => .tuple #[.slice r.1.1 (sched (offs xs)).length r.1.2, .slice r.2.1 (offs xs).length r.2.2, .bool true]) (fun r => (sep (R0) (sep (Own 30 4 (.slice r.1.1 (sched (offs xs)).length r.1.2) (sched (offs xs)).length (flat (sched (offs xs)))) (Own 3 1 (.slice r.2.1 (offs xs).length r.2.2) (offs xs).length (ints (offs xs)))))) := by
  rw [rightB, Bool.and_eq_true, decide_eq_true_eq] at hr
  obtain ⟨hok0, hn⟩ := hr
  refine FSpec.enter' Try.func17 rfl Try.ntmps17 rfl fun σ F => ?_
  refine J_seq ?_
  refine J_region ?_
  refine L_v (opv_assign rfl) rfl ?_
  refine L_v (opv_assign rfl) rfl ?_
  refine L_v (opv_assign rfl) rfl ?_
  refine L_nil ?_
  refine K_then ?_
  refine J_seq ?_
  refine J_region ?_
  refine L_x rfl (opx_call0 (New_spec) rfl rfl rfl) (fun p _ => ?_)
  refine L_v (opv_assign rfl) rfl ?_
  refine L_nil ?_
  refine K_then ?_
  refine J_seq ?_
  refine J_seq ?_
  refine J_region ?_
  refine L_v (opv_move rfl) rfl ?_
  first
    | refine L_v (opv_eql rfl rfl) rfl ?_
    | refine L_v (opv_eqlS rfl rfl) rfl ?_
    | refine L_v (opv_eqlNil rfl rfl) rfl ?_
    | refine L_v (opv_eqlB rfl rfl) rfl ?_
  refine L_nil ?_
  refine K_then ?_
  refine J_cond_false rfl ?_
  refine J_skip ?_
  refine K_then ?_
  refine J_seq ?_
  refine J_region ?_
  refine L_v (opv_assign rfl) rfl ?_
  refine L_nil ?_
  refine K_then ?_
  refine J_seq ?_
  refine J_region ?_
  refine L_v (opv_assign rfl) rfl ?_
  refine L_nil ?_
  refine K_then ?_
  refine J_seq ?_
  refine J_seq ?_
  refine J_region ?_
  refine L_v (opv_assign rfl) rfl ?_
  refine L_nil ?_
  refine K_then ?_
  refine J_block ?_
  refine J_loop (X := GS) (fun y => [(0, .slice A xs.length c), (5, .pointer (some (ad p 0))), (6, .slice y.v.1 y.all.length y.v.2), (7, .slice y.u.1 (offs (xs.take y.k)).length y.u.2), (8, .int .i64 y.k)]) (fun y => (sep (R0) (sep (LineP p y.q y.cur (endS (offs (xs.take y.k)))) (sep (Own 30 4 (.slice y.v.1 y.all.length y.v.2) y.all.length (flat y.all)) (sep (Own 3 1 (.slice y.u.1 (offs (xs.take y.k)).length y.u.2) (offs (xs.take y.k)).length (ints (offs (xs.take y.k)))) (F)))))) (fun y => y.k ≤ xs.length ∧ y.all ++ y.q = sched (offs (xs.take y.k)) ∧ okAll y.cur (xs.drop y.k) = true ∧ (0 ≤ y.cur ∧ y.cur ≤ 281474976710656) ∧ (0 ≤ endS (offs (xs.take y.k)) ∧ endS (offs (xs.take y.k)) ≤ 281474976710656 + 1538 * y.k)) (fun y => xs.length - y.k) (⟨0, [], [], 0, (none, 0), (none, 0)⟩) ⟨Nat.zero_le _, rfl, hok0, ⟨Int.le_refl _, by decide⟩, ⟨Int.le_refl _, by show (0 : Int) ≤ 281474976710656 + 1538 * ((0 : Nat) : Int); decide⟩⟩ ⟨rfl, rfl, rfl, rfl, rfl, trivial⟩ (Ent.trans (Ent.of (sep_left_comm _ _ _)) (Ent.trans (Ent.frame_left (Ent.frame_left (Ent.trans (Ent.of (emp_sep F).symm) (Ent.trans ((Own.nil 3 1).frame F) (Ent.trans (Ent.of (emp_sep _).symm) ((Own.nil 30 4).frame _)))) _) _) (Ent.of (by rfl)))) (fun y hy => ?_)
  obtain ⟨hk, hall, hok, ⟨h0, h0x⟩, hfr⟩ := hy
  have hol := offs_len xs y.k
  have hql : y.all.length + y.q.length = (offs (xs.take y.k)).length := by rw [← List.length_append, hall, sched_len]
  refine J_seq ?_
  refine J_seq ?_
  refine J_region ?_
  refine L_v (opv_move rfl) rfl ?_
  refine L_v (opv_move rfl) rfl ?_
  first
    | refine L_v (opv_lenL rfl) rfl ?_
    | refine L_v (opv_lenS rfl) rfl ?_
  refine L_v (opv_lss rfl rfl) rfl ?_
  refine L_nil ?_
  refine K_then ?_
  refine J_cond rfl (fun h1 => ?_) (fun h1 => ?_)
  · have hkl : y.k < xs.length := by omega
    obtain ⟨x, hx⟩ : ∃ x, xs[y.k]? = some x := ⟨_, List.getElem?_eq_getElem hkl⟩
    obtain ⟨b, o, rfl⟩ := hR.nonnil y.k hkl
    rw [okAll_drop hx, Bool.and_eq_true, decide_eq_true_eq] at hok
    obtain ⟨⟨ha, hb, hc2⟩, hok⟩ := hok
    have htim := tim_ok h0 ha hb
    refine J_skip ?_
    refine K_then ?_
    refine J_seq ?_
    refine J_block ?_
    refine J_seq ?_
    refine J_seq ?_
    refine J_region ?_
    refine L_v (opv_move rfl) rfl ?_
    refine L_v (opv_move rfl) rfl ?_
    first
      | refine L_v (opv_indexAddr rfl rfl (by omega)) rfl ?_
      | refine L_v (opv_indexAddrA rfl rfl (by omega)) rfl ?_
    first
      | refine L_v (opv_fieldAddr0 rfl) rfl ?_
      | refine L_v (opv_fieldAddr rfl) rfl ?_
    refine L_v (opv_load rfl (Rd.of_take (S := R0) (hR.rd b o rfl y.k x 0 _ hx rfl))) rfl ?_
    refine L_nil ?_
    refine K_then ?_
    refine J_cond_bool rfl (fun h2 => ?_) (fun h2 => ?_)
    · have hp : x.pass = true := h2
      refine J_seq ?_
      refine J_region ?_
      refine L_v (opv_move rfl) rfl ?_
      refine L_v (opv_move rfl) rfl ?_
      refine L_v (opv_move rfl) rfl ?_
      first
        | refine L_v (opv_indexAddr rfl rfl (by omega)) rfl ?_
        | refine L_v (opv_indexAddrA rfl rfl (by omega)) rfl ?_
      first
        | refine L_v (opv_fieldAddr0 rfl) rfl ?_
        | refine L_v (opv_fieldAddr rfl) rfl ?_
      refine L_v (opv_load rfl (Rd.of_take (S := R0) (hR.rd b o rfl y.k x 1 _ hx rfl))) rfl ?_
      refine L_x rfl (opx_call0 (Pass_ok p y.q y.cur (endS (offs (xs.take y.k))) x.now htim (by omega)) rfl rfl rfl) (fun x34 _ => ?_)
      refine L_v (opv_move rfl) rfl ?_
      refine L_v (opv_extract rfl rfl) rfl ?_
      refine L_v (opv_extract rfl rfl) rfl ?_
      refine L_v (opv_assign rfl) rfl ?_
      refine L_v (opv_assign rfl) rfl ?_
      refine L_nil ?_
      refine K_then ?_
      refine J_seq ?_
      refine J_seq ?_
      refine J_region ?_
      refine L_v (opv_move rfl) rfl ?_
      first
        | refine L_v (opv_neq rfl rfl) rfl ?_
        | refine L_v (opv_neqS rfl rfl) rfl ?_
        | refine L_v (opv_neqNil rfl rfl) rfl ?_
        | refine L_v (opv_neqB rfl rfl) rfl ?_
      refine L_nil ?_
      refine K_then ?_
      refine J_cond rfl (fun h3 => absurd rfl h3) (fun h3 => ?_)
      refine J_skip ?_
      refine K_then ?_
      refine J_seq ?_
      have htl : (y.q.take (fst y.q x.now)).length ≤ y.q.length := by rw [List.length_take]; omega
      refine J_know (fun w hs => GoneP.some (p := p) (x := x34) (g := y.q.take (fst y.q x.now)) (q := y.q.drop (fst y.q x.now)) (cur := x.now) (free := endS (offs (xs.take y.k))) hs) fun hg => ?_
      refine J_region ?_
      refine L_v (opv_move rfl) rfl ?_
      refine L_v (opv_move rfl) rfl ?_
      refine L_x rfl (opx_append (m := 4) (B := 40) rfl rfl (GoneP.src (p := p) (q := y.q.drop (fst y.q x.now)) (cur := x.now) (free := endS (offs (xs.take y.k))) hg) rfl (by omega) (flat_length _) (flat_one _) (by unfold maxLen; omega) (by omega) rfl) (fun y41 _ => ?_)
      refine L_v (opv_assign rfl) rfl ?_
      refine L_nil ?_
      refine K_then ?_
      refine J_exit ?_
      refine K_then_exit ?_
      refine K_block_here ?_
      refine K_then ?_
      refine J_region ?_
      refine L_v (opv_move rfl) rfl ?_
      first
        | refine L_v (opv_add64 rfl rfl (by omega)) rfl ?_
        | refine L_v (opv_addS rfl rfl (by omega)) rfl ?_
        | refine L_v (opv_add rfl rfl) rfl ?_
      refine L_v (opv_assign rfl) rfl ?_
      refine L_nil ?_
      rw [← offs_pass hx hp, ← List.length_append, ← List.flatMap_append]
      exact K_loop (⟨y.k + 1, y.q.drop (fst y.q x.now), y.all ++ y.q.take (fst y.q x.now), x.now, y41, y.u⟩) ⟨by dsimp only; omega, by rw [offs_pass hx hp]; rw [List.append_assoc, List.take_append_drop]; exact hall, hok, by dsimp only; omega, by rw [offs_pass hx hp]; dsimp only; omega⟩ (by dsimp only; omega) ⟨rfl, rfl, rfl, rfl, rfl, trivial⟩ (Ent.trans (Ent.swap (GoneP.forget (p := p) (x := x34) (g := y.q.take (fst y.q x.now)) (q := y.q.drop (fst y.q x.now)) (cur := x.now) (free := endS (offs (xs.take (y.k + 1)))))) Ent.take)
    · have hp : x.pass = false := h2
      refine J_skip ?_
      refine K_then ?_
      refine J_seq ?_
      refine J_seq ?_
      refine J_steps (R0) (R0) [] Try.mixed ?_
      refine R_pure 0 rfl (by kernel_rfl) (by kernel_rfl) (by kernel_rfl) (by kernel_rfl) (.inr ⟨_, Take.eq (A := R0)⟩) (opv_move rfl) rfl ?_
      refine R_pure 1 rfl (by kernel_rfl) (by kernel_rfl) (by kernel_rfl) (by kernel_rfl) (.inr ⟨_, Take.eq (A := R0)⟩) (opv_move rfl) rfl ?_
      refine R_pure 2 rfl (by kernel_rfl) (by kernel_rfl) (by kernel_rfl) (by kernel_rfl) (.inr ⟨_, Take.eq (A := R0)⟩) (opv_move rfl) rfl ?_
      first
        | refine R_pure 3 rfl (by kernel_rfl) (by kernel_rfl) (by kernel_rfl) (by kernel_rfl) (.inr ⟨_, Take.eq (A := R0)⟩) (opv_indexAddr rfl rfl (by omega)) rfl ?_
        | refine R_pure 3 rfl (by kernel_rfl) (by kernel_rfl) (by kernel_rfl) (by kernel_rfl) (.inr ⟨_, Take.eq (A := R0)⟩) (opv_indexAddrA rfl rfl (by omega)) rfl ?_
      first
        | refine R_pure 4 rfl (by kernel_rfl) (by kernel_rfl) (by kernel_rfl) (by kernel_rfl) (.inr ⟨_, Take.eq (A := R0)⟩) (opv_fieldAddr0 rfl) rfl ?_
        | refine R_pure 4 rfl (by kernel_rfl) (by kernel_rfl) (by kernel_rfl) (by kernel_rfl) (.inr ⟨_, Take.eq (A := R0)⟩) (opv_fieldAddr rfl) rfl ?_
      refine R_take 5 rfl (by kernel_rfl) (by kernel_rfl) (by kernel_rfl) (by kernel_rfl) (by kernel_rfl) (opv_load rfl (hR.rd b o rfl y.k x 1 _ hx rfl)) rfl ?_
      refine R_pure 6 rfl (by kernel_rfl) (by kernel_rfl) (by kernel_rfl) (by kernel_rfl) (.inr ⟨_, Take.eq (A := R0)⟩) (opv_move rfl) rfl ?_
      first
        | refine R_pure 7 rfl (by kernel_rfl) (by kernel_rfl) (by kernel_rfl) (by kernel_rfl) (.inr ⟨_, Take.eq (A := R0)⟩) (opv_lenL rfl) rfl ?_
        | refine R_pure 7 rfl (by kernel_rfl) (by kernel_rfl) (by kernel_rfl) (by kernel_rfl) (.inr ⟨_, Take.eq (A := R0)⟩) (opv_lenS rfl) rfl ?_
      refine R_pure 8 rfl (by kernel_rfl) (by kernel_rfl) (by kernel_rfl) (by kernel_rfl) (.inr ⟨_, Take.eq (A := R0)⟩) (opv_move rfl) rfl ?_
      refine R_pure 9 rfl (by kernel_rfl) (by kernel_rfl) (by kernel_rfl) (by kernel_rfl) (.inr ⟨_, Take.eq (A := R0)⟩) (opv_move rfl) rfl ?_
      first
        | refine R_pure 10 rfl (by kernel_rfl) (by kernel_rfl) (by kernel_rfl) (by kernel_rfl) (.inr ⟨_, Take.eq (A := R0)⟩) (opv_indexAddr rfl rfl (by omega)) rfl ?_
        | refine R_pure 10 rfl (by kernel_rfl) (by kernel_rfl) (by kernel_rfl) (by kernel_rfl) (.inr ⟨_, Take.eq (A := R0)⟩) (opv_indexAddrA rfl rfl (by omega)) rfl ?_
      first
        | refine R_pure 11 rfl (by kernel_rfl) (by kernel_rfl) (by kernel_rfl) (by kernel_rfl) (.inr ⟨_, Take.eq (A := R0)⟩) (opv_fieldAddr0 rfl) rfl ?_
        | refine R_pure 11 rfl (by kernel_rfl) (by kernel_rfl) (by kernel_rfl) (by kernel_rfl) (.inr ⟨_, Take.eq (A := R0)⟩) (opv_fieldAddr rfl) rfl ?_
      refine R_take 12 rfl (by kernel_rfl) (by kernel_rfl) (by kernel_rfl) (by kernel_rfl) (by kernel_rfl) (opv_load rfl (hR.rd b o rfl y.k x 3 _ hx rfl)) rfl ?_
      refine R_only 13 rfl rfl (by kernel_rfl) (opx_call0 (Offer_ok p y.q y.cur (endS (offs (xs.take y.k))) x.now ((offs (xs.take y.k)).length) x.text (by omega) htim hc2 (by omega)) rfl rfl rfl) (fun _ _ => ⟨_, Take.eq (A := R0)⟩) (.inr fun _ _ => ⟨_, Take.eq (A := R0)⟩) (fun _ _ => ?_)
      first
        | refine R_pure 14 rfl (by kernel_rfl) (by kernel_rfl) (by kernel_rfl) (by kernel_rfl) (.inr ⟨_, Take.eq (A := R0)⟩) (opv_neq rfl rfl) rfl ?_
        | refine R_pure 14 rfl (by kernel_rfl) (by kernel_rfl) (by kernel_rfl) (by kernel_rfl) (.inr ⟨_, Take.eq (A := R0)⟩) (opv_neqS rfl rfl) rfl ?_
        | refine R_pure 14 rfl (by kernel_rfl) (by kernel_rfl) (by kernel_rfl) (by kernel_rfl) (.inr ⟨_, Take.eq (A := R0)⟩) (opv_neqNil rfl rfl) rfl ?_
        | refine R_pure 14 rfl (by kernel_rfl) (by kernel_rfl) (by kernel_rfl) (by kernel_rfl) (.inr ⟨_, Take.eq (A := R0)⟩) (opv_neqB rfl rfl) rfl ?_
      refine R_done (by kernel_rfl) ?_
      refine K_then ?_
      refine J_cond rfl (fun h4 => absurd rfl h4) (fun h4 => ?_)
      refine J_skip ?_
      refine K_then ?_
      refine J_region ?_
      refine L_v (opv_move rfl) rfl ?_
      refine L_v (opv_move rfl) rfl ?_
      refine L_v (opv_move rfl) rfl ?_
      first
        | refine L_v (opv_indexAddr rfl rfl (by omega)) rfl ?_
        | refine L_v (opv_indexAddrA rfl rfl (by omega)) rfl ?_
      first
        | refine L_v (opv_fieldAddr0 rfl) rfl ?_
        | refine L_v (opv_fieldAddr rfl) rfl ?_
      refine L_v (opv_load rfl (Rd.of_take (S := R0) (hR.rd b o rfl y.k x 1 _ hx rfl))) rfl ?_
      refine L_x rfl (opx_buildSlice1 (m := 1) rfl rfl (by omega) (by omega) rfl) (fun b63 _ => ?_)
      refine L_x rfl (opx_append (m := 1) (B := 8) rfl rfl (Src.lit) rfl (by omega) rfl (by simp [Value.oneCell']) (by unfold maxLen; omega) (by omega) rfl) (fun y64 _ => ?_)
      refine L_v (opv_assign rfl) rfl ?_
      refine L_nil ?_
      refine K_block ?_
      refine K_then ?_
      refine J_region ?_
      refine L_v (opv_move rfl) rfl ?_
      first
        | refine L_v (opv_add64 rfl rfl (by omega)) rfl ?_
        | refine L_v (opv_addS rfl rfl (by omega)) rfl ?_
        | refine L_v (opv_add rfl rfl) rfl ?_
      refine L_v (opv_assign rfl) rfl ?_
      refine L_nil ?_
      have hsn := offs_offer hx hp
      have hes : endS (offs (xs.take (y.k + 1))) = (if endS (offs (xs.take y.k)) > x.now then endS (offs (xs.take y.k)) else x.now) + ((x.text.size : Int) + 20) := by rw [hsn]; exact endS_snoc _ _
      rw [ints_snoc _ (x.now, x.text), ← hsn, show (offs (xs.take y.k)).length + 1 = (offs (xs.take (y.k + 1))).length by rw [hsn]; simp, ← hes]
      exact K_loop (⟨y.k + 1, y.q ++ [⟨(offs (xs.take y.k)).length, x.text, if endS (offs (xs.take y.k)) > x.now then endS (offs (xs.take y.k)) else x.now, endS (offs (xs.take (y.k + 1)))⟩], y.all, x.now, y.v, y64⟩) ⟨by dsimp only; omega, by rw [hsn, endS_snoc, sched_snoc, ← List.append_assoc, hall], hok, by dsimp only; omega, by rw [hsn, endS_snoc]; dsimp only; split <;> omega⟩ (by dsimp only; omega) ⟨rfl, rfl, rfl, rfl, rfl, trivial⟩ Ent.take
  · have he : y.k = xs.length := by omega
    rw [he, List.take_length] at hall hfr hol hql
    rw [he, List.take_length]
    refine J_exit ?_
    refine K_then_exit ?_
    refine K_then_exit ?_
    refine K_block_here ?_
    refine K_then ?_
    refine J_seq ?_
    refine J_region ?_
    refine L_v (opv_move rfl) rfl ?_
    refine L_x rfl (opx_call0 (Pass_all p y.q y.cur (endS (offs xs)) 1125899906842624 (by unfold tim; rw [if_neg (by omega), if_neg (by omega)]) (by omega) (fun x hx => Int.le_trans (sched_le _ x (by rw [← hall]; exact List.mem_append_right _ hx)) (by omega))) rfl rfl rfl) (fun x67 _ => ?_)
    refine L_v (opv_move rfl) rfl ?_
    refine L_v (opv_extract rfl rfl) rfl ?_
    refine L_v (opv_extract rfl rfl) rfl ?_
    refine L_v (opv_assign rfl) rfl ?_
    refine L_v (opv_assign rfl) rfl ?_
    refine L_nil ?_
    refine K_then ?_
    refine J_seq ?_
    refine J_know (fun w hs => GoneP.some (p := p) (x := x67) (g := y.q) (q := []) (cur := 1125899906842624) (free := endS (offs xs)) hs) fun hg => ?_
    refine J_region ?_
    refine L_v (opv_move rfl) rfl ?_
    refine L_v (opv_move rfl) rfl ?_
    refine L_x rfl (opx_append (m := 4) (B := 40) rfl rfl (GoneP.src (p := p) (q := []) (cur := 1125899906842624) (free := endS (offs xs)) hg) rfl (by omega) (flat_length _) (flat_one _) (by unfold maxLen; omega) (by omega) rfl) (fun y72 _ => ?_)
    rw [← List.length_append, ← List.flatMap_append, hall]
    refine L_imp (sep (LineP p [] 1125899906842624 (endS (offs xs))) (sep (R0) (sep (Own 30 4 (.slice y72.1 (sched (offs xs)).length y72.2) (sched (offs xs)).length (flat (sched (offs xs)))) (sep (Own 3 1 (.slice y.u.1 (offs xs).length y.u.2) (offs xs).length (ints (offs xs))) (F))))) (Ent.trans (Ent.swap (GoneP.forget (p := p) (x := x67) (g := y.q) (q := []) (cur := 1125899906842624) (free := endS (offs xs)))) Ent.take) ?_
    refine L_v (opv_move rfl) rfl ?_
    refine L_v (opv_move rfl) rfl ?_
    first
      | refine L_v (opv_eql rfl rfl) rfl ?_
      | refine L_v (opv_eqlS rfl rfl) rfl ?_
      | refine L_v (opv_eqlNil rfl rfl) rfl ?_
      | refine L_v (opv_eqlB rfl rfl) rfl ?_
    refine L_v (opv_move rfl) rfl ?_
    refine L_gt rfl rfl (fun h5 => ?_) (fun h5 => absurd rfl h5) (fun _ h => by cases h; rfl)
    refine L_v (opv_move rfl) rfl ?_
    refine L_gt_on h5 rfl rfl ?_
    refine L_x rfl (opx_call0 (Waits_spec p [] 1125899906842624 (endS (offs xs))) rfl rfl rfl) (fun _ _ => ?_)
    refine L_gt_on h5 rfl rfl ?_
    first
      | refine L_v (opv_eql rfl rfl) rfl ?_
      | refine L_v (opv_eqlS rfl rfl) rfl ?_
      | refine L_v (opv_eqlNil rfl rfl) rfl ?_
      | refine L_v (opv_eqlB rfl rfl) rfl ?_
    refine L_v (opv_pick_t rfl h5 rfl) rfl ?_
    refine L_v (opv_assign rfl) rfl ?_
    refine L_v (opv_assign rfl) rfl ?_
    refine L_v (opv_assign rfl) rfl ?_
    refine L_nil ?_
    refine K_then ?_
    refine J_ret ?_
    exact K_ret3 rfl rfl rfl rfl (y72, y.u) trivial rfl Ent.take


end Go.Proofs.Ytpnpdliimidoaaa
