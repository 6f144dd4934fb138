/- Contracts of functions of the package reasm, each proved by a walk over its code; they are used by the texts that import this one. -/
import Derived.Test.YtjpbpfihacfndaaRb
import Derived.Test.YtjpbpfihacfndaaH
namespace Go.Proofs.Ytjpbpfihacfndaa
open Go.SLA
set_option maxRecDepth 100000
set_option linter.unusedVariables false
set_option linter.unusedSimpArgs false
attribute [local irreducible] J L K QL Rg FSpec OpV OpX Rd Back

/-- A packet that is begun: its key, when it was begun, its bytes so far. -/
structure Bg where
  k : Ky
  t : Int
  data : ByteArray
/-- What a table holds: packets that are begun, its tick, how many were given up. -/
structure TS where
  q : List Bg
  now : Int
  dr : Int
def keysOf (q : List Bg) : List Ky := q.map (·.k)
theorem keysOf_len (q : List Bg) : (keysOf q).length = q.length := List.length_map ..
def wob (q : List Bg) (k : Ky) : List Bg := q.filter fun b => !decide (b.k = k)
theorem keysOf_wob (q : List Bg) (k : Ky) : keysOf (wob q k) = wo (keysOf q) k := by
  unfold keysOf wob wo
  rw [List.filter_map]
  rfl
/-- The begun one at a block. -/
def begP (e : Bg × Nat) : HProp := ex fun x : Option Addr × Nat => (sep (cel e.2 [.int .i64 e.1.t, .slice x.1 e.1.data.size x.2] 101) (OwnB 5 x e.1.data))
theorem begP.fold {e : Bg × Nat} {F : HProp} (u : Option Addr × Nat) : Ent (sep (cel e.2 [.int .i64 e.1.t, .slice u.1 e.1.data.size u.2] 101) (sep (OwnB 5 u e.1.data) (F))) (sep (begP e) (F)) :=
  Ent.trans (Ent.of (sep_assoc _ _ _).symm) (Ent.ex (f := fun x : Option Addr × Nat => (sep (cel e.2 [.int .i64 e.1.t, .slice x.1 e.1.data.size x.2] 101) (OwnB 5 x e.1.data))) u)
def begs : List (Bg × Nat) → HProp
  | [] => emp
  | e :: l => (sep (begP e) (begs l))
theorem begs_app : ∀ (l1 l2 : List (Bg × Nat)), begs (l1 ++ l2) = (sep (begs l1) (begs l2))
  | [], l2 => (emp_sep _).symm
  | e :: l1, l2 => by
    show (sep (begP e) (begs (l1 ++ l2))) = _
    rw [begs_app l1 l2, ← sep_assoc]
    rfl
theorem begs_one (e : Bg × Nat) : begs [e] = begP e := sep_emp _
/-- A map leads each key to its block. -/
structure MapIs (es : List (Bg × Nat)) (f : List Value → Option Value) : Prop where
  nd : (keysOf (es.map (·.1))).Nodup
  at_ : ∀ k : Ky, f (encKy k) = (es.find? fun e => decide (e.1.k = k)).map fun e => Value.pointer (some (ad e.2 0))
theorem MapIs.nil : MapIs [] (fun _ => none) := ⟨List.nodup_nil, fun _ => rfl⟩
theorem MapIs.del {es : List (Bg × Nat)} {f : List Value → Option Value} (h : MapIs es f) (k : Ky) : MapIs (es.filter fun e => !decide (e.1.k = k)) (mdel f (encKy k)) := by
  refine ⟨?_, fun k' => ?_⟩
  · refine h.nd.sublist ?_
    exact (List.filter_sublist.map _).map _
  · rw [List.find?_filter]
    by_cases e : k' = k
    · subst e
      rw [mdel_same]
      have : (es.find? fun a => decide ((!decide (a.1.k = k')) = true ∧ decide (a.1.k = k') = true)) = none := by
        rw [List.find?_eq_none]
        intro a _
        simp
      rw [this]; rfl
    · rw [mdel_other (fun h => e (encKy_inj.1 h)), h.at_]
      congr 1
      congr 1
      funext a
      by_cases ha : a.1.k = k'
      · simp [ha, e]
      · simp [ha]
theorem MapIs.put {es : List (Bg × Nat)} {f : List Value → Option Value} (h : MapIs es f) (b : Bg) (n : Nat) (hn : ∀ e ∈ es, e.1.k ≠ b.k) : MapIs (es ++ [(b, n)]) (mput f (encKy b.k) (.pointer (some (ad n 0)))) := by
  refine ⟨?_, fun k' => ?_⟩
  · unfold keysOf
    rw [List.map_append, List.map_append, List.nodup_append]
    refine ⟨h.nd, by simp, fun a ha c hc => ?_⟩
    simp only [List.map_cons, List.map_nil, List.mem_singleton] at hc
    rw [List.map_map] at ha
    obtain ⟨e, he, rfl⟩ := List.mem_map.1 ha
    rw [hc]
    exact hn e he
  · rw [List.find?_append]
    by_cases e : k' = b.k
    · subst e
      have : (es.find? fun e => decide (e.1.k = b.k)) = none := by
        rw [List.find?_eq_none]
        intro a ha
        simp [hn a ha]
      rw [mput_same, this]
      simp
    · rw [mput_other (fun h => e (encKy_inj.1 h)), h.at_]
      have : (([(b, n)] : List (Bg × Nat)).find? fun e => decide (e.1.k = k')) = none := by
        rw [List.find?_eq_none]
        intro a ha
        rw [List.mem_singleton.1 ha]
        simp [Ne.symm e]
      rw [this]
      simp
/-- A table at p, with room for m and a wait of wt. -/
def TabP (p : Nat) (m wt : Int) (T : TS) : HProp := ex fun x : Nat × (Option Addr × Nat) × List (Bg × Nat) × (List Value → Option Value) => (sep (lift (x.2.2.1.map (·.1) = T.q ∧ MapIs x.2.2.1 x.2.2.2)) (sep (cel p [.map (some x.1), .slice x.2.1.1 (keysOf T.q).length x.2.1.2, .int .i64 m, .int .i64 wt, .int .i64 T.now, .int .i64 T.dr] 99) (sep (mapp x.1 ksKy x.2.2.2) (sep (Own 70 10 (.slice x.2.1.1 (keysOf T.q).length x.2.1.2) (keysOf T.q).length (flatK (keysOf T.q))) (begs x.2.2.1)))))
theorem TabP.fold {p : Nat} {m wt : Int} {T : TS} {F : HProp} (r : Nat) (a : Option Addr × Nat) (es : List (Bg × Nat)) (f : List Value → Option Value) (h1 : es.map (·.1) = T.q) (h2 : MapIs es f) : Ent (sep (cel p [.map (some r), .slice a.1 (keysOf T.q).length a.2, .int .i64 m, .int .i64 wt, .int .i64 T.now, .int .i64 T.dr] 99) (sep (mapp r ksKy f) (sep (Own 70 10 (.slice a.1 (keysOf T.q).length a.2) (keysOf T.q).length (flatK (keysOf T.q))) (sep (begs es) (F))))) (sep (TabP p m wt T) (F)) := by
  refine Ent.trans (Ent.lift (p := es.map (·.1) = T.q ∧ MapIs es f) ⟨h1, h2⟩) (Ent.trans (Ent.of ?_) (Ent.ex (f := fun x : Nat × (Option Addr × Nat) × List (Bg × Nat) × (List Value → Option Value) => (sep (lift (x.2.2.1.map (·.1) = T.q ∧ MapIs x.2.2.1 x.2.2.2)) (sep (cel p [.map (some x.1), .slice x.2.1.1 (keysOf T.q).length x.2.1.2, .int .i64 m, .int .i64 wt, .int .i64 T.now, .int .i64 T.dr] 99) (sep (mapp x.1 ksKy x.2.2.2) (sep (Own 70 10 (.slice x.2.1.1 (keysOf T.q).length x.2.1.2) (keysOf T.q).length (flatK (keysOf T.q))) (begs x.2.2.1)))))) (r, a, es, f)))
  simp only [sep_assoc]
theorem TabP.sat {σ w : World} {p : Nat} {m wt : Int} {T : TS} {F : HProp} (h : Sat σ w (sep (TabP p m wt T) (F))) : ∃ x : Nat × (Option Addr × Nat) × List (Bg × Nat) × (List Value → Option Value), ((x.2.2.1.map (·.1) = T.q ∧ MapIs x.2.2.1 x.2.2.2) ∧ ((x.2.1.1 = none ∧ T.q = []) ∨ ∃ b o, x.2.1.1 = some (ad b o))) ∧ Sat σ w (sep (cel p [.map (some x.1), .slice x.2.1.1 (keysOf T.q).length x.2.1.2, .int .i64 m, .int .i64 wt, .int .i64 T.now, .int .i64 T.dr] 99) (sep (mapp x.1 ksKy x.2.2.2) (sep (Own 70 10 (.slice x.2.1.1 (keysOf T.q).length x.2.1.2) (keysOf T.q).length (flatK (keysOf T.q))) (sep (begs x.2.2.1) (F))))) := by
  obtain ⟨x, hx⟩ := sat_ex.1 h
  simp only [sep_assoc] at hx
  obtain ⟨h1, h2⟩ := sat_lift.1 hx
  refine ⟨x, ⟨h1, ?_⟩, h2⟩
  rcases own_nonnil h2.drop.drop with ⟨g1, _, g2, _⟩ | g
  · rw [keysOf_len] at g2
    exact .inl ⟨g1, List.eq_nil_of_length_eq_zero g2⟩
  · exact .inr g
/-- What is wrong with a tick. -/
def timC (cur now : Int) : Int := if 1125899906842624 < now then 1 else if now < cur then 24 else 0
def late (wt now : Int) (b : Bg) : Bool := decide (wt < now - b.t)
/-- Time goes on. -/
def TS.pass (T : TS) (wt now : Int) : TS := ⟨T.q.dropWhile (late wt now), now, T.dr + (T.q.takeWhile (late wt now)).length⟩
theorem pass_go {b : Bg} {q : List Bg} {n0 now wt d : Int} (h : wt < now - b.t) : TS.pass ⟨b :: q, n0, d⟩ wt now = TS.pass ⟨q, now, d + 1⟩ wt now := by
  have hl : late wt now b = true := decide_eq_true h
  unfold TS.pass
  simp only [List.dropWhile_cons, List.takeWhile_cons, hl, if_true, List.length_cons]
  congr 1
  omega
theorem pass_stop {q : List Bg} {n0 now wt d : Int} (h : ∀ b, q.head? = some b → ¬ wt < now - b.t) : TS.pass ⟨q, n0, d⟩ wt now = ⟨q, now, d⟩ := by
  unfold TS.pass
  cases q with
  | nil => simp
  | cons b q =>
    have hl : late wt now b = false := decide_eq_false (h b rfl)
    simp [List.dropWhile_cons, List.takeWhile_cons, hl]
/-- What is true of a table behind n calls. -/
structure TOk (n : Nat) (T : TS) : Prop where
  now : 0 ≤ T.now ∧ T.now ≤ 1125899906842624
  bg : ∀ b ∈ T.q, (0 ≤ b.t ∧ b.t ≤ 1125899906842624) ∧ b.data.size ≤ 8200
  nd : (keysOf T.q).Nodup
  dr : 0 ≤ T.dr
  n : T.dr + T.q.length ≤ n
theorem tl_wo {b : Bg} {q : List Bg} (h : (keysOf (b :: q)).Nodup) : wo (keysOf (b :: q)) b.k = keysOf q ∧ wob (b :: q) b.k = q := by
  have h2 := List.nodup_cons.1 (show (b.k :: keysOf q).Nodup from h)
  constructor
  · show wo ([b.k] ++ keysOf q) b.k = _
    rw [wo_app, wo_one_eq rfl, List.nil_append, wo_none fun x hx e => h2.1 (by rw [← e]; exact hx)]
  · unfold wob
    rw [List.filter_cons, if_neg (by simp)]
    rw [List.filter_eq_self]
    intro x hx
    have : x.k ≠ b.k := fun e => h2.1 (e ▸ List.mem_map.2 ⟨x, hx, rfl⟩)
    simp [this]
theorem filt_tl {e : Bg × Nat} {es : List (Bg × Nat)} (h : (keysOf ((e :: es).map (·.1))).Nodup) : ((e :: es).filter fun a => !decide (a.1.k = e.1.k)) = es := by
  have h2 := List.nodup_cons.1 (show (e.1.k :: keysOf (es.map (·.1))).Nodup from h)
  rw [List.filter_cons, if_neg (by simp), List.filter_eq_self]
  intro x hx
  have : x.1.k ≠ e.1.k := fun h => h2.1 (h ▸ List.mem_map.2 ⟨x.1, List.mem_map.2 ⟨x, hx, rfl⟩, rfl⟩)
  simp [this]

def ts0 : TS := ⟨[], 0, 0⟩
theorem rnew {p r : Nat} {m wt : Int} {F : HProp} : Ent (sep (cel p [.map (some r), .slice none 0 0, .int .i64 m, .int .i64 wt, .int .i64 0, .int .i64 0] 99) (sep (mapp r ksKy (fun _ => none)) (F))) (sep (TabP p m wt ts0) (F)) :=
  Ent.trans (Ent.frame_left (Ent.frame_left (Ent.trans (Ent.of (emp_sep F).symm) (Ent.trans (Ent.frame_left (Ent.of (emp_sep F).symm) _) ((Own.nil 70 10).frame _))) _) _) (TabP.fold (T := ts0) r (none, 0) [] (fun _ => none) rfl MapIs.nil)

theorem New_ok (a c : Int) (ha : 1 ≤ a ∧ a ≤ 64) (hc : 0 ≤ c ∧ c ≤ 1125899906842624) : FSpec Try.prog 27 #[.int .i64 a, .int .i64 c] (emp) (fun p : Nat => True) (fun p => .tuple #[.pointer (some (ad p 0)), .int .i64 0]) (fun p => TabP p a c ts0) := by
  refine FSpec.enter' Try.func27 rfl Try.ntmps27 rfl fun σ F => ?_
  refine J_emp ?_
  refine J_seq ?_
  refine J_region ?_
  refine L_v (opv_assign rfl) rfl ?_
  refine L_v (opv_assign rfl) rfl ?_
  refine L_nil ?_
  refine K_then ?_
  refine J_seq ?_
  refine J_seq ?_
  refine J_region ?_
  refine L_v (opv_move rfl) rfl ?_
  refine L_v ((opv_lss rfl rfl).bool_f (by omega)) rfl ?_
  refine L_v (opv_move rfl) rfl ?_
  refine L_gon rfl rfl rfl ?_
  refine L_v (opv_move rfl) rfl ?_
  refine L_gon rfl rfl rfl ?_
  refine L_v ((opv_gtr rfl rfl).bool_f (by omega)) rfl ?_
  first
    | refine L_v (opv_pick_tt rfl rfl) rfl ?_
    | refine L_v (opv_pick_ff rfl rfl) rfl ?_
    | refine L_v (opv_pick rfl rfl rfl) rfl ?_
  refine L_v (opv_move rfl) rfl ?_
  refine L_gon rfl rfl rfl ?_
  refine L_v (opv_move rfl) rfl ?_
  refine L_gon rfl rfl rfl ?_
  refine L_v ((opv_lss rfl rfl).bool_f (by omega)) rfl ?_
  first
    | refine L_v (opv_pick_tt rfl rfl) rfl ?_
    | refine L_v (opv_pick_ff rfl rfl) rfl ?_
    | refine L_v (opv_pick rfl rfl rfl) rfl ?_
  refine L_v (opv_move rfl) rfl ?_
  refine L_gon rfl rfl rfl ?_
  refine L_v (opv_move rfl) rfl ?_
  refine L_gon rfl rfl rfl ?_
  refine L_v ((opv_gtr rfl rfl).bool_f (by omega)) rfl ?_
  first
    | refine L_v (opv_pick_tt rfl rfl) rfl ?_
    | refine L_v (opv_pick_ff rfl rfl) rfl ?_
    | refine L_v (opv_pick rfl rfl rfl) rfl ?_
  refine L_nil ?_
  refine K_then ?_
  refine J_cond_false rfl ?_
  refine J_skip ?_
  refine K_then ?_
  refine J_seq ?_
  refine J_region ?_
  refine L_x rfl (opx_makeMap ksKy rfl) (fun r20 _ => ?_)
  refine L_v (opv_move rfl) rfl ?_
  refine L_v (opv_move rfl) rfl ?_
  refine L_v (opv_build rfl) rfl ?_
  refine L_x rfl (opx_box rfl rfl) (fun b24 _ => ?_)
  refine L_v (opv_assign rfl) rfl ?_
  refine L_v (opv_assign rfl) rfl ?_
  refine L_nil ?_
  refine K_then ?_
  refine J_ret ?_
  exact K_ret2 rfl rfl rfl b24 trivial rfl rnew

theorem New_err (a c : Int) (h : ¬ (1 ≤ a ∧ a ≤ 64 ∧ 0 ≤ c ∧ c ≤ 1125899906842624)) : FSpec Try.prog 27 #[.int .i64 a, .int .i64 c] (emp) (fun _ : Unit => True) (fun _ => .tuple #[.pointer none, .int .i64 1]) (fun _ => emp) := by
  refine FSpec.enter' Try.func27 rfl Try.ntmps27 rfl fun σ F => ?_
  refine J_seq ?_
  refine J_region ?_
  refine L_v (opv_assign rfl) rfl ?_
  refine L_v (opv_assign rfl) rfl ?_
  refine L_nil ?_
  refine K_then ?_
  refine J_seq ?_
  refine J_seq ?_
  refine J_region ?_
  refine L_v (opv_move rfl) rfl ?_
  refine L_v (opv_lss rfl rfl) rfl ?_
  refine L_v (opv_move rfl) rfl ?_
  refine L_gf rfl rfl (fun h1 => ?_) (fun h1 => ?_) (fun _ h => by cases h; rfl)
  · refine L_v (opv_move rfl) rfl ?_
    refine L_gf_on h1 rfl rfl ?_
    refine L_v (opv_gtr rfl rfl) rfl ?_
    refine L_v (opv_pick_f rfl h1 rfl) rfl ?_
    refine L_v (opv_move rfl) rfl ?_
    refine L_gf rfl rfl (fun h2 => ?_) (fun h2 => ?_) (fun _ h => by cases h; rfl)
    · refine L_v (opv_move rfl) rfl ?_
      refine L_gf_on h2 rfl rfl ?_
      refine L_v (opv_lss rfl rfl) rfl ?_
      refine L_v (opv_pick_f rfl h2 rfl) rfl ?_
      refine L_v (opv_move rfl) rfl ?_
      refine L_gf rfl rfl (fun h3 => ?_) (fun h3 => ?_) (fun _ h => by cases h; rfl)
      · refine L_v (opv_move rfl) rfl ?_
        refine L_gf_on h3 rfl rfl ?_
        refine L_v (opv_gtr rfl rfl) rfl ?_
        refine L_v (opv_pick_f rfl h3 rfl) rfl ?_
        refine L_nil ?_
        refine K_then ?_
        refine J_cond rfl (fun h4 => ?_) (fun h4 => (by exfalso; omega))
        refine J_seq ?_
        refine J_region ?_
        refine L_v (opv_assign rfl) rfl ?_
        refine L_v (opv_assign rfl) rfl ?_
        refine L_nil ?_
        refine K_then ?_
        refine J_ret ?_
        refine K_then_ret ?_
        exact K_ret2 rfl rfl rfl () trivial rfl (Ent.refl _)
      · refine L_gf_off h3 rfl rfl ?_ (fun _ h => by cases h; rfl)
        refine L_v (opv_pick_t rfl h3 rfl) rfl ?_
        refine L_nil ?_
        refine K_then ?_
        refine J_cond_true rfl ?_
        refine J_seq ?_
        refine J_region ?_
        refine L_v (opv_assign rfl) rfl ?_
        refine L_v (opv_assign rfl) rfl ?_
        refine L_nil ?_
        refine K_then ?_
        refine J_ret ?_
        refine K_then_ret ?_
        exact K_ret2 rfl rfl rfl () trivial rfl (Ent.refl _)
    · refine L_gf_off h2 rfl rfl ?_ (fun _ h => by cases h; rfl)
      refine L_v (opv_pick_t rfl h2 rfl) rfl ?_
      refine L_v (opv_move rfl) rfl ?_
      refine L_gskip rfl rfl rfl ?_ (fun _ h => by cases h; rfl)
      refine L_gskip rfl rfl rfl ?_ (fun _ h => by cases h; rfl)
      first
        | refine L_v (opv_pick_tt rfl rfl) rfl ?_
        | refine L_v (opv_pick_ff rfl rfl) rfl ?_
        | refine L_v (opv_pick rfl rfl rfl) rfl ?_
      refine L_nil ?_
      refine K_then ?_
      refine J_cond_true rfl ?_
      refine J_seq ?_
      refine J_region ?_
      refine L_v (opv_assign rfl) rfl ?_
      refine L_v (opv_assign rfl) rfl ?_
      refine L_nil ?_
      refine K_then ?_
      refine J_ret ?_
      refine K_then_ret ?_
      exact K_ret2 rfl rfl rfl () trivial rfl (Ent.refl _)
  · refine L_gf_off h1 rfl rfl ?_ (fun _ h => by cases h; rfl)
    refine L_v (opv_pick_t rfl h1 rfl) rfl ?_
    refine L_v (opv_move rfl) rfl ?_
    refine L_gskip rfl rfl rfl ?_ (fun _ h => by cases h; rfl)
    refine L_gskip rfl rfl rfl ?_ (fun _ h => by cases h; rfl)
    first
      | refine L_v (opv_pick_tt rfl rfl) rfl ?_
      | refine L_v (opv_pick_ff rfl rfl) rfl ?_
      | refine L_v (opv_pick rfl rfl rfl) rfl ?_
    refine L_v (opv_move rfl) rfl ?_
    refine L_gskip rfl rfl rfl ?_ (fun _ h => by cases h; rfl)
    refine L_gskip rfl rfl rfl ?_ (fun _ h => by cases h; rfl)
    first
      | refine L_v (opv_pick_tt rfl rfl) rfl ?_
      | refine L_v (opv_pick_ff rfl rfl) rfl ?_
      | refine L_v (opv_pick rfl rfl rfl) rfl ?_
    refine L_nil ?_
    refine K_then ?_
    refine J_cond_true rfl ?_
    refine J_seq ?_
    refine J_region ?_
    refine L_v (opv_assign rfl) rfl ?_
    refine L_v (opv_assign rfl) rfl ?_
    refine L_nil ?_
    refine K_then ?_
    refine J_ret ?_
    refine K_then_ret ?_
    exact K_ret2 rfl rfl rfl () trivial rfl (Ent.refl _)

theorem Dropped_nil  : FSpec Try.prog 35 #[.pointer none] (emp) (fun _ : Unit => True) (fun _ => .int .i64 0) (fun _ => emp) := by
  refine FSpec.enter' Try.func35 rfl Try.ntmps35 rfl fun σ F => ?_
  refine J_seq ?_
  refine J_region ?_
  refine L_v (opv_assign rfl) rfl ?_
  refine L_nil ?_
  refine K_then ?_
  refine J_seq ?_
  refine J_seq ?_
  refine J_region ?_
  refine L_v (opv_move rfl) rfl ?_
  first
    | refine L_v (opv_eql rfl rfl) rfl ?_
    | refine L_v (opv_eqlS rfl rfl) rfl ?_
    | refine L_v (opv_eqlNil rfl rfl) rfl ?_
    | refine L_v (opv_eqlB rfl rfl) rfl ?_
  refine L_nil ?_
  refine K_then ?_
  refine J_cond_true rfl ?_
  refine J_seq ?_
  refine J_region ?_
  refine L_v (opv_assign rfl) rfl ?_
  refine L_nil ?_
  refine K_then ?_
  refine J_ret ?_
  refine K_then_ret ?_
  exact K_ret1 rfl rfl () trivial (rfl) (Ent.refl _)

theorem Dropped_spec (p : Nat) (m wt : Int) (T : TS) : FSpec Try.prog 35 #[.pointer (some (ad p 0))] (TabP p m wt T) (fun _ : Unit => True) (fun _ => .int .i64 T.dr) (fun _ => TabP p m wt T) := by
  refine FSpec.enter' Try.func35 rfl Try.ntmps35 rfl fun σ F => ?_
  refine J_pre _ _ (fun w hs => TabP.sat hs) fun x hx => ?_
  obtain ⟨⟨hx1, hx2⟩, hx3⟩ := hx
  refine J_seq ?_
  refine J_region ?_
  refine L_v (opv_assign rfl) rfl ?_
  refine L_nil ?_
  refine K_then ?_
  refine J_seq ?_
  refine J_seq ?_
  refine J_region ?_
  refine L_v (opv_move rfl) rfl ?_
  first
    | refine L_v (opv_eql rfl rfl) rfl ?_
    | refine L_v (opv_eqlS rfl rfl) rfl ?_
    | refine L_v (opv_eqlNil rfl rfl) rfl ?_
    | refine L_v (opv_eqlB rfl rfl) rfl ?_
  refine L_nil ?_
  refine K_then ?_
  refine J_cond_false rfl ?_
  refine J_skip ?_
  refine K_then ?_
  refine J_seq ?_
  refine J_region ?_
  refine L_v (opv_move rfl) rfl ?_
  refine L_v (opv_nilCheck rfl) rfl ?_
  first
    | refine L_v (opv_fieldAddr0 rfl) rfl ?_
    | refine L_v (opv_fieldAddr rfl) rfl ?_
  refine L_v (opv_load rfl (Rd.look rfl)) rfl ?_
  refine L_v (opv_assign rfl) rfl ?_
  refine L_nil ?_
  refine K_then ?_
  refine J_ret ?_
  exact K_ret1 rfl rfl () trivial (rfl) (TabP.fold x.1 x.2.1 x.2.2.1 x.2.2.2 hx1 hx2)

theorem Pass_nil (now : Int) : FSpec Try.prog 30 #[.pointer none, .int .i64 now] (emp) (fun _ : Unit => True) (fun _ => .int .i64 2) (fun _ => emp) := by
  refine FSpec.enter' Try.func30 rfl Try.ntmps30 rfl fun σ F => ?_
  refine J_seq ?_
  refine J_region ?_
  refine L_v (opv_assign rfl) rfl ?_
  refine L_nil ?_
  refine K_then ?_
  refine J_seq ?_
  refine J_block ?_
  refine J_seq ?_
  refine J_region ?_
  refine L_v (opv_move rfl) rfl ?_
  first
    | refine L_v (opv_eql rfl rfl) rfl ?_
    | refine L_v (opv_eqlS rfl rfl) rfl ?_
    | refine L_v (opv_eqlNil rfl rfl) rfl ?_
    | refine L_v (opv_eqlB rfl rfl) rfl ?_
  refine L_v (opv_assign rfl) rfl ?_
  refine L_nil ?_
  refine K_then ?_
  refine J_cond_true rfl ?_
  refine J_seq ?_
  refine J_region ?_
  refine L_v (opv_assign rfl) rfl ?_
  refine L_nil ?_
  refine K_then ?_
  refine J_ret ?_
  refine K_block_ret ?_
  refine K_then_ret ?_
  exact K_ret1 rfl rfl () trivial (rfl) (Ent.refl _)

theorem Pass_bad (p : Nat) (m wt : Int) (T : TS) (now : Int) (h : timC T.now now ≠ 0) : FSpec Try.prog 30 #[.pointer (some (ad p 0)), .int .i64 now] (TabP p m wt T) (fun _ : Unit => True) (fun _ => .int .i64 (timC T.now now)) (fun _ => TabP p m wt T) := by
  unfold timC at h ⊢
  refine FSpec.enter' Try.func30 rfl Try.ntmps30 rfl fun σ F => ?_
  refine J_pre _ _ (fun w hs => TabP.sat hs) fun x hx => ?_
  obtain ⟨⟨hx1, hx2⟩, hx3⟩ := hx
  refine J_seq ?_
  refine J_region ?_
  refine L_v (opv_assign rfl) rfl ?_
  refine L_nil ?_
  refine K_then ?_
  refine J_seq ?_
  refine J_block ?_
  refine J_seq ?_
  refine J_region ?_
  refine L_v (opv_move rfl) rfl ?_
  first
    | refine L_v (opv_eql rfl rfl) rfl ?_
    | refine L_v (opv_eqlS rfl rfl) rfl ?_
    | refine L_v (opv_eqlNil rfl rfl) rfl ?_
    | refine L_v (opv_eqlB rfl rfl) rfl ?_
  refine L_v (opv_assign rfl) rfl ?_
  refine L_nil ?_
  refine K_then ?_
  refine J_cond_false rfl ?_
  refine J_seq ?_
  refine J_region ?_
  refine L_v (opv_move rfl) rfl ?_
  refine L_v (opv_gtr rfl rfl) rfl ?_
  refine L_v (opv_assign rfl) rfl ?_
  refine L_nil ?_
  refine K_then ?_
  refine J_cond rfl (fun h1 => ?_) (fun h1 => ?_)
  · refine J_seq ?_
    refine J_region ?_
    refine L_v (opv_assign rfl) rfl ?_
    refine L_nil ?_
    refine K_then ?_
    refine J_ret ?_
    refine K_block_ret ?_
    refine K_then_ret ?_
    exact K_ret1 rfl rfl () trivial (congrArg (Value.int .i64) (by first | rw [if_pos (by omega)] | rw [if_neg (by omega), if_pos (by omega)])) (TabP.fold x.1 x.2.1 x.2.2.1 x.2.2.2 hx1 hx2)
  · refine J_seq ?_
    refine J_region ?_
    refine L_v (opv_move rfl) rfl ?_
    refine L_v (opv_move rfl) rfl ?_
    refine L_v (opv_nilCheck rfl) rfl ?_
    first
      | refine L_v (opv_fieldAddr0 rfl) rfl ?_
      | refine L_v (opv_fieldAddr rfl) rfl ?_
    refine L_v (opv_load rfl (Rd.look rfl)) rfl ?_
    refine L_v (opv_lss rfl rfl) rfl ?_
    refine L_v (opv_assign rfl) rfl ?_
    refine L_nil ?_
    refine K_then ?_
    refine J_cond rfl (fun h2 => ?_) (fun h2 => absurd (by rw [if_neg (by omega), if_neg h2]) h)
    refine J_seq ?_
    refine J_region ?_
    refine L_v (opv_assign rfl) rfl ?_
    refine L_nil ?_
    refine K_then ?_
    refine J_ret ?_
    refine K_block_ret ?_
    refine K_then_ret ?_
    exact K_ret1 rfl rfl () trivial (congrArg (Value.int .i64) (by first | rw [if_pos (by omega)] | rw [if_neg (by omega), if_pos (by omega)])) (TabP.fold x.1 x.2.1 x.2.2.1 x.2.2.2 hx1 hx2)

set_option maxHeartbeats 600000 in
theorem Pass_ok (p : Nat) (m wt : Int) (T : TS) (now : Int) (h : timC T.now now = 0) (n : Nat) (hT : TOk n T) (hn : n ≤ 1000000) (hwt : 0 ≤ wt ∧ wt ≤ 1125899906842624) : FSpec Try.prog 30 #[.pointer (some (ad p 0)), .int .i64 now] (TabP p m wt T) (fun _ : Unit => True) (fun _ => .int .i64 0) (fun _ => TabP p m wt (T.pass wt now)) := by
  have hnow : T.now ≤ now ∧ now ≤ 1125899906842624 := by unfold timC at h; split at h; cases h; split at h; cases h; omega
  have hT1 := hT.now
  have hT2 := hT.dr
  have hT3 := hT.n
  refine FSpec.enter' Try.func30 rfl Try.ntmps30 rfl fun σ F => ?_
  refine J_pre _ _ (fun w hs => TabP.sat hs) fun x hx => ?_
  obtain ⟨⟨hx1, hx2⟩, hx3⟩ := hx
  refine J_seq ?_
  refine J_region ?_
  refine L_v (opv_assign rfl) rfl ?_
  refine L_nil ?_
  refine K_then ?_
  refine J_seq ?_
  refine J_block ?_
  refine J_seq ?_
  refine J_region ?_
  refine L_v (opv_move rfl) rfl ?_
  first
    | refine L_v (opv_eql rfl rfl) rfl ?_
    | refine L_v (opv_eqlS rfl rfl) rfl ?_
    | refine L_v (opv_eqlNil rfl rfl) rfl ?_
    | refine L_v (opv_eqlB rfl rfl) rfl ?_
  refine L_v (opv_assign rfl) rfl ?_
  refine L_nil ?_
  refine K_then ?_
  refine J_cond_false rfl ?_
  refine J_seq ?_
  refine J_region ?_
  refine L_v (opv_move rfl) rfl ?_
  refine L_v ((opv_gtr rfl rfl).bool_f (by omega)) rfl ?_
  refine L_v (opv_assign rfl) rfl ?_
  refine L_nil ?_
  refine K_then ?_
  refine J_cond_false rfl ?_
  refine J_seq ?_
  refine J_region ?_
  refine L_v (opv_move rfl) rfl ?_
  refine L_v (opv_move rfl) rfl ?_
  refine L_v (opv_nilCheck rfl) rfl ?_
  first
    | refine L_v (opv_fieldAddr0 rfl) rfl ?_
    | refine L_v (opv_fieldAddr rfl) rfl ?_
  refine L_v (opv_load rfl (Rd.look rfl)) rfl ?_
  refine L_v ((opv_lss rfl rfl).bool_f (by omega)) rfl ?_
  refine L_v (opv_assign rfl) rfl ?_
  refine L_nil ?_
  refine K_then ?_
  refine J_cond_false rfl ?_
  refine J_skip ?_
  refine K_block ?_
  refine K_then ?_
  refine J_seq ?_
  refine J_region ?_
  refine L_v (opv_move rfl) rfl ?_
  refine L_v (opv_move rfl) rfl ?_
  refine L_v (opv_nilCheck rfl) rfl ?_
  first
    | refine L_v (opv_fieldAddr0 rfl) rfl ?_
    | refine L_v (opv_fieldAddr rfl) rfl ?_
  refine L_x rfl (opx_store rfl rfl rfl (by simp [Value.oneCell'])) (fun _ _ => ?_)
  refine L_nil ?_
  refine K_then ?_
  refine J_seq ?_
  refine J_block ?_
  refine J_loop (X := TS) (fun y => [(0, .pointer (some (ad p 0))), (1, .int .i64 now)]) (fun y => (sep (TabP p m wt y) (F))) (fun y => y.now = now ∧ T.pass wt now = y.pass wt now ∧ (∀ b ∈ y.q, (0 ≤ b.t ∧ b.t ≤ 1125899906842624) ∧ b.data.size ≤ 8200) ∧ y.dr + y.q.length ≤ 1000000 ∧ 0 ≤ y.dr) (fun y => y.q.length) (⟨T.q, now, T.dr⟩) ⟨rfl, rfl, hT.bg, by dsimp only; omega, hT2⟩ ⟨rfl, rfl, trivial⟩ (TabP.fold (T := ⟨T.q, now, T.dr⟩) x.1 x.2.1 x.2.2.1 x.2.2.2 hx1 hx2) (fun y hy => ?_)
  clear hx1 hx2 hx3 x
  obtain ⟨hyn, hy, hyb, hyl, hyd⟩ := hy
  refine J_pre _ _ (fun w hs => TabP.sat hs) fun x hx => ?_
  obtain ⟨⟨hx1, hx2⟩, hx3⟩ := hx
  obtain ⟨r, ⟨A, c⟩, es, f⟩ := x
  dsimp only at hx1 hx2 hx3
  refine J_eq (sep (cel p [.map (some r), .slice A (keysOf y.q).length c, .int .i64 m, .int .i64 wt, .int .i64 now, .int .i64 y.dr] 99) (sep (mapp r ksKy f) (sep (Own 70 10 (.slice A (keysOf y.q).length c) (keysOf y.q).length (flatK (keysOf y.q))) (sep (begs es) (F))))) (by rw [hyn]) ?_
  cases es with
  | nil => ?_
  | cons e rest => ?_
  · refine J_seq ?_
    refine J_seq ?_
    refine J_quiet Try.mixed (by kernel_rfl) ?_
    refine Q_v (opv_move rfl) rfl ?_
    refine Q_v (opv_nilCheck rfl) rfl ?_
    first
      | refine Q_v (opv_fieldAddr0 rfl) rfl ?_
      | refine Q_v (opv_fieldAddr rfl) rfl ?_
    refine Q_v (opv_load rfl (Rd.look rfl)) rfl ?_
    first
      | refine Q_v (opv_lenL rfl) rfl ?_
      | refine Q_v (opv_lenS rfl) rfl ?_
    first
      | refine Q_v ((opv_gtr rfl rfl).bool_t (by omega)) rfl ?_
      | refine Q_v ((opv_gtr rfl rfl).bool_f (by rw [show y.q = [] from hx1.symm]; decide)) rfl ?_
    refine Q_v (opv_move rfl) rfl ?_
    refine Q_gskip rfl rfl rfl ?_ (fun _ h => by cases h; rfl)
    refine Q_gskip rfl rfl rfl ?_ (fun _ h => by cases h; rfl)
    refine Q_gskip rfl rfl rfl ?_ (fun _ h => by cases h; rfl)
    refine Q_gskip rfl rfl rfl ?_ (fun _ h => by cases h; rfl)
    refine Q_gskip rfl rfl rfl ?_ (fun _ h => by cases h; rfl)
    refine Q_gskip rfl rfl rfl ?_ (fun _ h => by cases h; rfl)
    refine Q_gskip rfl rfl rfl ?_ (fun _ h => by cases h; rfl)
    refine Q_gskip rfl rfl rfl ?_ (fun _ h => by cases h; rfl)
    refine Q_gskip rfl rfl rfl ?_ (fun _ h => by cases h; rfl)
    refine Q_gskip rfl rfl rfl ?_ (fun _ h => by cases h; rfl)
    refine Q_gskip rfl rfl rfl ?_ (fun _ h => by cases h; rfl)
    refine Q_gskip rfl rfl rfl ?_ (fun _ h => by cases h; rfl)
    refine Q_gskip rfl rfl rfl ?_ (fun _ h => by cases h; rfl)
    refine Q_gskip rfl rfl rfl ?_ (fun _ h => by cases h; rfl)
    refine Q_gskip rfl rfl rfl ?_ (fun _ h => by cases h; rfl)
    refine Q_gskip rfl rfl rfl ?_ (fun _ h => by cases h; rfl)
    refine Q_gskip rfl rfl rfl ?_ (fun _ h => by cases h; rfl)
    refine Q_gskip rfl rfl rfl ?_ (fun _ h => by cases h; rfl)
    refine Q_gskip rfl rfl rfl ?_ (fun _ h => by cases h; rfl)
    refine Q_gskip rfl rfl rfl ?_ (fun _ h => by cases h; rfl)
    refine Q_gskip rfl rfl rfl ?_ (fun _ h => by cases h; rfl)
    first
      | refine Q_v (opv_pick_tt rfl rfl) rfl ?_
      | refine Q_v (opv_pick_ff rfl rfl) rfl ?_
      | refine Q_v (opv_pick rfl rfl rfl) rfl ?_
    refine QL_nil ?_
    refine K_then ?_
    refine J_cond_false rfl ?_
    refine J_exit ?_
    refine K_then_exit ?_
    refine K_then_exit ?_
    refine K_block_here ?_
    refine K_then ?_
    refine J_seq ?_
    refine J_region ?_
    refine L_v (opv_assign rfl) rfl ?_
    refine L_nil ?_
    refine K_then ?_
    refine J_ret ?_
    have hqn : y.q = [] := hx1.symm
    have hs := pass_stop (q := y.q) (n0 := y.now) (now := now) (wt := wt) (d := y.dr) (fun b hb => by rw [hqn] at hb; cases hb)
    exact K_ret1 rfl rfl () trivial rfl (Ent.trans (TabP.fold (T := ⟨y.q, now, y.dr⟩) r (A, c) [] f hx1 hx2) (Ent.of (by rw [hy, ← hs])))
  · refine J_seq ?_
    refine J_seq ?_
    obtain ⟨b, o, rfl⟩ : ∃ b o, A = some (ad b o) := by rcases hx3 with ⟨_, g⟩ | g; (rw [← hx1] at g; cases g); exact g
    refine J_eq (sep (begP e) (sep (cel p [.map (some r), .slice (some (ad b o)) (keysOf y.q).length c, .int .i64 m, .int .i64 wt, .int .i64 now, .int .i64 y.dr] 99) (sep (mapp r ksKy f) (sep (Own 70 10 (.slice (some (ad b o)) (keysOf y.q).length c) (keysOf y.q).length (flatK (keysOf y.q))) (sep (begs rest) (F)))))) (by show (sep (_) (sep (_) (sep (_) (sep ((sep (begP e) (begs rest))) (F))))) = _; ac_rfl) ?_
    refine J_ex fun u => ?_
    refine J_eq _ (sep_assoc _ _ _) ?_
    have hq0 : keysOf y.q = e.1.k :: keysOf (rest.map (·.1)) := by rw [← hx1]; rfl
    have hql : (keysOf y.q).length = rest.length + 1 := by rw [hq0]; simp [keysOf]
    have hk0 : (keysOf y.q)[0]? = some e.1.k := by rw [hq0]; rfl
    have hfk : (f (encKy e.1.k)).getD (.pointer none) = .pointer (some (ad e.2 0)) := by rw [hx2.at_]; simp
    have hbe := hyb e.1 (by rw [← hx1]; exact List.mem_map.2 ⟨e, List.mem_cons_self .., rfl⟩)
    have hy4 : y.q.length = rest.length + 1 := by rw [← hx1]; simp
    refine J_quiet Try.mixed (by kernel_rfl) ?_
    refine Q_v (opv_move rfl) rfl ?_
    refine Q_v (opv_nilCheck rfl) rfl ?_
    first
      | refine Q_v (opv_fieldAddr0 rfl) rfl ?_
      | refine Q_v (opv_fieldAddr rfl) rfl ?_
    refine Q_v (opv_load rfl (Rd.look rfl)) rfl ?_
    first
      | refine Q_v (opv_lenL rfl) rfl ?_
      | refine Q_v (opv_lenS rfl) rfl ?_
    first
      | refine Q_v ((opv_gtr rfl rfl).bool_t (by omega)) rfl ?_
      | refine Q_v ((opv_gtr rfl rfl).bool_f (by rw [show y.q = [] from hx1.symm]; decide)) rfl ?_
    refine Q_v (opv_move rfl) rfl ?_
    refine Q_gon rfl rfl rfl ?_
    refine Q_v (opv_move rfl) rfl ?_
    refine Q_gon rfl rfl rfl ?_
    refine Q_v (opv_move rfl) rfl ?_
    refine Q_gon rfl rfl rfl ?_
    refine Q_v (opv_nilCheck rfl) rfl ?_
    refine Q_gon rfl rfl rfl ?_
    first
      | refine Q_v (opv_fieldAddr0 rfl) rfl ?_
      | refine Q_v (opv_fieldAddr rfl) rfl ?_
    refine Q_gon rfl rfl rfl ?_
    refine Q_v (opv_load rfl (Rd.look rfl)) rfl ?_
    refine Q_gon rfl rfl rfl ?_
    refine Q_v (opv_move rfl) rfl ?_
    refine Q_gon rfl rfl rfl ?_
    refine Q_v (opv_nilCheck rfl) rfl ?_
    refine Q_gon rfl rfl rfl ?_
    first
      | refine Q_v (opv_fieldAddr0 rfl) rfl ?_
      | refine Q_v (opv_fieldAddr rfl) rfl ?_
    refine Q_gon rfl rfl rfl ?_
    refine Q_v (opv_load rfl (Rd.look rfl)) rfl ?_
    refine Q_gon rfl rfl rfl ?_
    refine Q_v (opv_indexAddr rfl rfl (by omega)) rfl ?_
    refine Q_gon rfl rfl rfl ?_
    refine Q_v (opv_loadN (vs := [.int .u8 e.1.k.s0, .int .u8 e.1.k.s1, .int .u8 e.1.k.s2, .int .u8 e.1.k.s3, .int .u8 e.1.k.d0, .int .u8 e.1.k.d1, .int .u8 e.1.k.d2, .int .u8 e.1.k.d3, .int .i64 e.1.k.proto, .int .i64 e.1.k.id]) rfl rfl (fun j u hj => Rd.of_take (S := Own 70 10 (.slice (some (ad b o)) (keysOf y.q).length c) (keysOf y.q).length (flatK (keysOf y.q))) ((RdS.own (m := 10) (e := 70) (c := c) encKy_len (.inr ⟨b, o, rfl⟩)).rd b o rfl 0 e.1.k j u hk0 hj))) rfl ?_
    refine Q_gon rfl rfl rfl ?_
    refine Q_v ((opv_lookup (k := encKy e.1.k) (f := f) rfl rfl (shKy _)).as (v' := .pointer (some (ad e.2 0))) hfk) rfl ?_
    refine Q_gon rfl rfl rfl ?_
    refine Q_v (opv_nilCheck rfl) rfl ?_
    refine Q_gon rfl rfl rfl ?_
    first
      | refine Q_v (opv_fieldAddr0 rfl) rfl ?_
      | refine Q_v (opv_fieldAddr rfl) rfl ?_
    refine Q_gon rfl rfl rfl ?_
    refine Q_v (opv_load rfl (Rd.look rfl)) rfl ?_
    refine Q_gon rfl rfl rfl ?_
    first
      | refine Q_v (opv_sub64 rfl rfl (by omega)) rfl ?_
      | refine Q_v (opv_sub rfl rfl) rfl ?_
    refine Q_gon rfl rfl rfl ?_
    refine Q_v (opv_move rfl) rfl ?_
    refine Q_gon rfl rfl rfl ?_
    refine Q_v (opv_nilCheck rfl) rfl ?_
    refine Q_gon rfl rfl rfl ?_
    first
      | refine Q_v (opv_fieldAddr0 rfl) rfl ?_
      | refine Q_v (opv_fieldAddr rfl) rfl ?_
    refine Q_gon rfl rfl rfl ?_
    refine Q_v (opv_load rfl (Rd.look rfl)) rfl ?_
    refine Q_gon rfl rfl rfl ?_
    refine Q_v (opv_gtr rfl rfl) rfl ?_
    first
      | refine Q_v (opv_pick_tt rfl rfl) rfl ?_
      | refine Q_v (opv_pick_ff rfl rfl) rfl ?_
      | refine Q_v (opv_pick rfl rfl rfl) rfl ?_
    refine QL_nil ?_
    refine K_then ?_
    refine J_cond rfl (fun h1 => ?_) (fun h1 => ?_)
    · refine J_skip ?_
      refine K_then ?_
      refine J_block ?_
      refine J_region ?_
      refine L_v (opv_move rfl) rfl ?_
      refine L_v (opv_move rfl) rfl ?_
      refine L_v (opv_nilCheck rfl) rfl ?_
      first
        | refine L_v (opv_fieldAddr0 rfl) rfl ?_
        | refine L_v (opv_fieldAddr rfl) rfl ?_
      refine L_v (opv_load rfl (Rd.look rfl)) rfl ?_
      refine L_v (opv_indexAddr rfl rfl (by omega)) rfl ?_
      refine L_v (opv_loadN (vs := [.int .u8 e.1.k.s0, .int .u8 e.1.k.s1, .int .u8 e.1.k.s2, .int .u8 e.1.k.s3, .int .u8 e.1.k.d0, .int .u8 e.1.k.d1, .int .u8 e.1.k.d2, .int .u8 e.1.k.d3, .int .i64 e.1.k.proto, .int .i64 e.1.k.id]) rfl rfl (fun j u hj => Rd.of_take (S := Own 70 10 (.slice (some (ad b o)) (keysOf y.q).length c) (keysOf y.q).length (flatK (keysOf y.q))) ((RdS.own (m := 10) (e := 70) (c := c) encKy_len (.inr ⟨b, o, rfl⟩)).rd b o rfl 0 e.1.k j u hk0 hj))) rfl ?_
      refine L_x rfl (opx_call0 (drop_raw p r (.int .i64 m) (.int .i64 wt) (.int .i64 now) (some (ad b o)) c (keysOf y.q) f e.1.k (by omega) y.dr (by omega)) rfl rfl rfl) (fun z _ => ?_)
      refine L_nil ?_
      refine K_block ?_
      have hnd := hx2.nd
      have hyq : y.q = e.1 :: rest.map (·.1) := hx1.symm
      have hwo : wo (keysOf y.q) e.1.k = keysOf (rest.map (·.1)) := by rw [hyq]; exact (tl_wo hnd).1
      have hpg := pass_go (b := e.1) (q := rest.map (·.1)) (n0 := y.now) (now := now) (wt := wt) (d := y.dr) h1
      rw [hwo]
      exact K_loop (⟨rest.map (·.1), now, y.dr + 1⟩) ⟨rfl, by rw [hy]; show TS.pass ⟨y.q, y.now, y.dr⟩ wt now = _; rw [hyq]; exact hpg, fun b hb => hyb b (by rw [hyq]; exact List.mem_cons_of_mem _ hb), by dsimp only; rw [List.length_map]; omega, by dsimp only; omega⟩ (by dsimp only; rw [List.length_map]; omega) ⟨rfl, rfl, trivial⟩ (Ent.trans (Ent.take (Q := (sep (cel p [.map (some r), .slice z.1 (keysOf (rest.map (·.1))).length z.2, .int .i64 m, .int .i64 wt, .int .i64 now, .int .i64 (y.dr + 1)] 99) (sep (mapp r ksKy (mdel f (encKy e.1.k))) (sep (Own 70 10 (.slice z.1 (keysOf (rest.map (·.1))).length z.2) (keysOf (rest.map (·.1))).length (flatK (keysOf (rest.map (·.1))))) (sep (begs rest) (F))))))) (TabP.fold (T := ⟨rest.map (·.1), now, y.dr + 1⟩) r z rest (mdel f (encKy e.1.k)) rfl (by have := hx2.del e.1.k; rwa [filt_tl hnd] at this)))
    · refine J_exit ?_
      refine K_then_exit ?_
      refine K_then_exit ?_
      refine K_block_here ?_
      refine K_then ?_
      refine J_seq ?_
      refine J_region ?_
      refine L_v (opv_assign rfl) rfl ?_
      refine L_nil ?_
      refine K_then ?_
      refine J_ret ?_
      have hs := pass_stop (q := y.q) (n0 := y.now) (now := now) (wt := wt) (d := y.dr) (fun b hb => by rw [← hx1] at hb; cases hb; exact h1)
      exact K_ret1 rfl rfl () trivial rfl (Ent.trans (Ent.take (Q := (sep (cel e.2 [.int .i64 e.1.t, .slice u.1 e.1.data.size u.2] 101) (sep (OwnB 5 u e.1.data) (sep (cel p [.map (some r), .slice (some (ad b o)) (keysOf y.q).length c, .int .i64 m, .int .i64 wt, .int .i64 now, .int .i64 y.dr] 99) (sep (mapp r ksKy f) (sep (Own 70 10 (.slice (some (ad b o)) (keysOf y.q).length c) (keysOf y.q).length (flatK (keysOf y.q))) (sep (begs rest) (F))))))))) (Ent.trans (begP.fold u) (Ent.trans (Ent.of (Q := (sep (cel p [.map (some r), .slice (some (ad b o)) (keysOf y.q).length c, .int .i64 m, .int .i64 wt, .int .i64 now, .int .i64 y.dr] 99) (sep (mapp r ksKy f) (sep (Own 70 10 (.slice (some (ad b o)) (keysOf y.q).length c) (keysOf y.q).length (flatK (keysOf y.q))) (sep (begs (e :: rest)) (F)))))) (by show _ = (sep (_) (sep (_) (sep (_) (sep ((sep (begP e) (begs rest))) (F))))); ac_rfl)) (Ent.trans (TabP.fold (T := ⟨y.q, now, y.dr⟩) r (some (ad b o), c) (e :: rest) f hx1 hx2) (Ent.of (by rw [hy, ← hs]))))))

end Go.Proofs.Ytjpbpfihacfndaa
