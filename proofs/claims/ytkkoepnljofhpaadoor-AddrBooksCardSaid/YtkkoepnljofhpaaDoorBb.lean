/- The law AddrKeeps, proved by a walk over its code; it is used by the texts that import this one. -/
import Derived.Test.YtkkoepnljofhpaaDoorBa
import Derived.Test.YtkkoepnljofhpaaDoorAj
import Derived.Test.YtkkoepnljofhpaaDoorAq
import Derived.Test.YtkkoepnljofhpaaDoorXc
import Derived.Test.YtkkoepnljofhpaaDoorH
namespace Go.Proofs.YtkkoepnljofhpaaDoor
open Go.SLA
set_option maxRecDepth 100000
set_option linter.unusedVariables false
set_option linter.unusedSimpArgs false
attribute [local irreducible] J L K QL Rg FSpec OpV OpX Rd Back
structure Oq where
  ask : Int
  a : Int
  b : Int
  c : Int
  d : Int
  e : Int
  f : Int
  n : Int
def encOq (x : Oq) : List Value := [.int .i64 x.ask, .int .u8 x.a, .int .u8 x.b, .int .u8 x.c, .int .u8 x.d, .int .u8 x.e, .int .u8 x.f, .int .i64 x.n]
def okOq (x : Oq) : Prop := (Lit.int .i64 x.ask).wf = true ∧ (Lit.int .u8 x.a).wf = true ∧ (Lit.int .u8 x.b).wf = true ∧ (Lit.int .u8 x.c).wf = true ∧ (Lit.int .u8 x.d).wf = true ∧ (Lit.int .u8 x.e).wf = true ∧ (Lit.int .u8 x.f).wf = true ∧ (Lit.int .i64 x.n).wf = true
abbrev ksOq : List CK := [.int .i64, .int .u8, .int .u8, .int .u8, .int .u8, .int .u8, .int .u8, .int .i64]
theorem encOq_len (x : Oq) : (encOq x).length = 8 := rfl
theorem decOq (cs : List Value) (h : Kinds ksOq cs) : ∃ x, cs = encOq x ∧ okOq x := by
  obtain ⟨hl, hk⟩ := h
  obtain ⟨v0, g0, x0, rfl, w0⟩ := hk 0 _ rfl
  obtain ⟨v1, g1, x1, rfl, w1⟩ := hk 1 _ rfl
  obtain ⟨v2, g2, x2, rfl, w2⟩ := hk 2 _ rfl
  obtain ⟨v3, g3, x3, rfl, w3⟩ := hk 3 _ rfl
  obtain ⟨v4, g4, x4, rfl, w4⟩ := hk 4 _ rfl
  obtain ⟨v5, g5, x5, rfl, w5⟩ := hk 5 _ rfl
  obtain ⟨v6, g6, x6, rfl, w6⟩ := hk 6 _ rfl
  obtain ⟨v7, g7, x7, rfl, w7⟩ := hk 7 _ rfl
  match cs, hl with
  | [c0, c1, c2, c3, c4, c5, c6, c7], _ =>
    simp only [List.getElem?_cons_zero, List.getElem?_cons_succ, Option.some.injEq] at g0 g1 g2 g3 g4 g5 g6 g7
    exact ⟨⟨x0, x1, x2, x3, x4, x5, x6, x7⟩, by simp only [encOq, *], ⟨w0, w1, w2, w3, w4, w5, w6, w7⟩⟩


/-- A call of a book. -/
structure OpA where
  ask : Int
  m : List Nat
  n : Int
def encOpA (x : OpA) : List Value := .int .i64 x.ask :: (x.m.map enc8 ++ [.int .i64 x.n])
def okOpA (x : OpA) : Prop := Bys 6 x.m
theorem decOpA (cs : List Value) (h : Kinds ksOq cs) : ∃ x, cs = encOpA x ∧ okOpA x := by
  obtain ⟨⟨k, a, b, c, d, e, f, n⟩, rfl, _, h1, h2, h3, h4, h5, h6, _⟩ := decOq cs h
  obtain ⟨a, rfl, ha⟩ := nat8 h1
  obtain ⟨b, rfl, hb⟩ := nat8 h2
  obtain ⟨c, rfl, hc⟩ := nat8 h3
  obtain ⟨d, rfl, hd⟩ := nat8 h4
  obtain ⟨e, rfl, he⟩ := nat8 h5
  obtain ⟨f, rfl, hf⟩ := nat8 h6
  exact ⟨⟨k, [a, b, c, d, e, f], n⟩, rfl, bys6 ⟨ha, hb, hc, hd, he, hf⟩⟩
theorem gdel2 {g : List Nat → Option Int} {l : List Nat} : gdel (gdel g l) l = gdel g l := by
  funext l'
  by_cases h : l' = l
  · subst h; rw [gdel_same, gdel_same]
  · rw [gdel_other h]
theorem Drop_gone (b : Nat) (g : List Nat → Option Int) (S : List (List Nat)) (l : List Nat) (hb : Bys 6 l) : FSpec Tryd.prog 32 #[.pointer (some (ad b 0)), ag l] (BookQ b (gdel g l) S) (fun _ : Unit => True) (fun _ => .bool false) (fun _ => BookQ b (gdel (gdel g l) l) S) :=
  (Drop_q b (gdel g l) S l hb).conseq (Ent.refl _) fun _ _ => ⟨(), trivial, by rw [gdel_same]; rfl, Ent.refl _⟩
theorem rdAsk {S : HProp} {A : Option Addr} {xs : List OpA} (h : RdS S encOpA 8 A xs) {b o i : Nat} {x : OpA} (hA : A = some (ad b o)) (hx : xs[i]? = some x) : Rd S b (o + i * 8) (.int .i64 x.ask) := h.rd b o hA i x 0 _ hx rfl
theorem rdM {S : HProp} {A : Option Addr} {xs : List OpA} (h : RdS S encOpA 8 A xs) {b o i : Nat} {x : OpA} (hA : A = some (ad b o)) (hx : xs[i]? = some x) (j : Nat) (u : Value) (hj : (x.m.map enc8)[j]? = some u) : Rd S b (o + i * 8 + 1 + j) u := by
  have hjl : j < (x.m.map enc8).length := (List.getElem?_eq_some_iff.1 hj).1
  have := h.rd b o hA i x (1 + j) u hx (by unfold encOpA; rw [Nat.add_comm 1 j, List.getElem?_cons_succ, List.getElem?_append_left hjl]; exact hj)
  rwa [← Nat.add_assoc] at this
theorem rdN {S : HProp} {A : Option Addr} {xs : List OpA} (h : RdS S encOpA 8 A xs) {b o i : Nat} {x : OpA} (hA : A = some (ad b o)) (hx : xs[i]? = some x) (hb : Bys 6 x.m) : Rd S b (o + i * 8 + 7) (.int .i64 x.n) :=
  h.rd b o hA i x 7 _ hx (by unfold encOpA; rw [List.getElem?_cons_succ, List.getElem?_append_right (by rw [enc8_len hb]; exact Nat.le_refl _), enc8_len hb]; rfl)

set_option maxHeartbeats 1000000 in
theorem AddrKeeps_spec (W : World) (hW : W.cell? (ad 7 15) = some (.int .u8 4)) (ms : List Nat) (hb : Bys 6 ms) (n : Int) (A : Option Addr) (c : Nat) (xs : List OpA) (hR : RdS (old W) encOpA 8 A xs) (hn : xs.length ≤ 9223372036854775807) (hx : ∀ x ∈ xs, okOpA x) : FSpec Tryd.prog 8 #[ag ms, .int .i64 n, .slice A xs.length c] (old W) (fun _ : Unit => True) (fun _ => .bool true) (fun _ => old W) := by
  refine FSpec.enter' Tryd.func8 rfl Tryd.ntmps8 rfl fun σ F => ?_
  refine J_seq ?_
  refine J_region ?_
  refine L_x rfl (opx_box (l := ms.map enc8) rfl rfl) (fun b3 _ => ?_)
  refine L_v (opv_assign rfl) rfl ?_
  refine L_nil ?_
  refine K_then ?_
  refine J_seq ?_
  refine J_region ?_
  refine L_v (opv_build rfl) rfl ?_
  refine L_x rfl (opx_box (l := [.map none]) rfl rfl) (fun b15 _ => ?_)
  refine L_v (opv_assign rfl) rfl ?_
  refine L_nil ?_
  refine K_then ?_
  refine J_seq ?_
  refine J_imp (sep (BookQ b15 (fun _ => none) ([])) (sep (cel b3 (ms.map enc8) 23) (sep (old W) (F)))) (Ent.frame BookQ.none_ _) ?_
  refine J_region ?_
  refine L_v (opv_move rfl) rfl ?_
  refine L_v (opv_loadW rfl (enc8_len hb)) rfl ?_
  refine L_v (opv_move rfl) rfl ?_
  refine L_x rfl (opx_call0 (Put_q b15 (fun _ => none) [] ms hb n) rfl rfl rfl) (fun _ _ => ?_)
  refine L_nil ?_
  refine K_then ?_
  refine J_seq ?_
  refine J_seq ?_
  refine J_region ?_
  refine L_v (opv_assign rfl) rfl ?_
  refine L_nil ?_
  refine K_then ?_
  refine J_block ?_
  refine J_loop (X := Nat × (List Nat → Option Int) × List (List Nat)) (fun z => [(1, .int .i64 n), (2, .slice A xs.length c), (3, .pointer (some (ad b3 0))), (7, .pointer (some (ad b15 0))), (8, .int .i64 z.1)]) (fun z => (sep (BookQ b15 (z.2.1) (z.2.2)) (sep (cel b3 (ms.map enc8) 23) (sep (old W) (F))))) (fun z => z.1 ≤ xs.length ∧ z.1 ≤ 60 ∧ z.2.1 ms = some n ∧ z.2.2.length ≤ z.1 + 1) (fun z => xs.length - z.1) ((0, gput (fun _ => none) ms n, [ms])) ⟨Nat.zero_le _, Nat.zero_le _, (by show gput (fun _ => none) ms n ms = some n; exact gput_same _ _ _), Nat.le_refl _⟩ ⟨rfl, rfl, rfl, rfl, rfl, trivial⟩ (by show Ent _ (sep (BookQ b15 (gput (fun _ => none) ms n) ([ms])) (sep (cel b3 (ms.map enc8) 23) (sep (old W) (F)))); exact Ent.take) (fun z hz => ?_)
  refine J_seq ?_
  refine J_seq ?_
  refine J_region ?_
  refine L_v (opv_move rfl) rfl ?_
  refine L_v (opv_move rfl) rfl ?_
  first
    | refine L_v (opv_lenL rfl) rfl ?_
    | refine L_v (opv_lenS rfl) rfl ?_
  refine L_v (opv_lss rfl rfl) rfl ?_
  refine L_v (opv_move rfl) rfl ?_
  refine L_gt rfl rfl (fun h1 => ?_) (fun h1 => ?_) (fun _ h => by cases h; rfl)
  · refine L_v (opv_move rfl) rfl ?_
    refine L_gt_on h1 rfl rfl ?_
    refine L_v (opv_lss rfl rfl) rfl ?_
    refine L_v (opv_pick_t rfl h1 rfl) rfl ?_
    refine L_nil ?_
    refine K_then ?_
    refine J_cond rfl (fun h2 => ?_) (fun h2 => ?_)
    · obtain ⟨x, hi, hm⟩ := get_lt (l := xs) (i := z.1) (by omega)
      have hxb : Bys 6 x.m := hx x hm
      obtain ⟨b, o, rfl⟩ := hR.nonnil z.1 (by omega)
      refine J_skip ?_
      refine K_then ?_
      refine J_seq ?_
      refine J_block ?_
      refine J_seq ?_
      refine J_seq ?_
      refine J_quiet Tryd.mixed (by kernel_rfl) ?_
      refine Q_v (opv_move rfl) rfl ?_
      refine Q_v (opv_move rfl) rfl ?_
      first
        | refine Q_v (opv_indexAddr rfl rfl (by omega)) rfl ?_
        | refine Q_v (opv_indexAddrA rfl rfl (by omega)) rfl ?_
      first
        | refine Q_v (opv_fieldAddr0 rfl) rfl ?_
        | refine Q_v (opv_fieldAddr rfl) rfl ?_
      refine Q_v (opv_loadN (vs := x.m.map enc8) rfl (enc8_len hxb) (fun j u hj => Rd.of_take (S := old W) (rdM hR rfl hi j u hj))) rfl ?_
      refine Q_v (opv_loadW rfl (enc8_len hb)) rfl ?_
      refine Q_v ((opv_eqlF rfl rfl (shape6 hxb) (shape6 hb)).as eq8) rfl ?_
      refine QL_nil ?_
      refine K_then ?_
      refine J_cond rfl (fun h3 => ?_) (fun h3 => ?_)
      · refine J_exit ?_
        refine K_then_exit ?_
        refine K_block_here ?_
        refine K_then ?_
        refine J_region ?_
        refine L_v (opv_move rfl) rfl ?_
        first
          | refine L_v (opv_add64 rfl rfl (by omega)) rfl ?_
          | refine L_v (opv_addS rfl rfl (by omega)) rfl ?_
          | refine L_v (opv_add rfl rfl) rfl ?_
        refine L_v (opv_assign rfl) rfl ?_
        refine L_nil ?_
        exact K_loop ((z.1 + 1, z.2.1, z.2.2)) ⟨by show z.1 + 1 ≤ _; omega, by show z.1 + 1 ≤ 60; omega, hz.2.2.1, by show z.2.2.length ≤ z.1 + 1 + 1; omega⟩ (by show xs.length - (z.1 + 1) < _; omega) ⟨rfl, rfl, rfl, rfl, rfl, trivial⟩ Ent.take
      · have hne : ms ≠ x.m := fun e => h3 e.symm
        refine J_skip ?_
        refine K_then ?_
        refine J_seq ?_
        refine J_seq ?_
        refine J_region ?_
        refine L_v (opv_move rfl) rfl ?_
        refine L_v (opv_move rfl) rfl ?_
        first
          | refine L_v (opv_indexAddr rfl rfl (by omega)) rfl ?_
          | refine L_v (opv_indexAddrA rfl rfl (by omega)) rfl ?_
        first
          | refine L_v (opv_fieldAddr0 rfl) rfl ?_
          | refine L_v (opv_fieldAddr rfl) rfl ?_
        refine L_v (opv_load rfl (Rd.of_take (S := old W) (rdAsk hR rfl hi))) rfl ?_
        first
          | refine L_v (opv_eql rfl rfl) rfl ?_
          | refine L_v (opv_eqlS rfl rfl) rfl ?_
          | refine L_v (opv_eqlNil rfl rfl) rfl ?_
          | refine L_v (opv_eqlB rfl rfl) rfl ?_
        refine L_nil ?_
        refine K_then ?_
        refine J_cond rfl (fun h4 => ?_) (fun h4 => ?_)
        · refine J_steps (old W) (old W) [11] Tryd.mixed ?_
          refine R_pure 0 rfl (by kernel_rfl) (by kernel_rfl) (by kernel_rfl) (by kernel_rfl) (.inr ⟨_, Take.eq (A := old W)⟩) (opv_move rfl) rfl ?_
          refine R_pure 1 rfl (by kernel_rfl) (by kernel_rfl) (by kernel_rfl) (by kernel_rfl) (.inr ⟨_, Take.eq (A := old W)⟩) (opv_move rfl) rfl ?_
          refine R_pure 2 rfl (by kernel_rfl) (by kernel_rfl) (by kernel_rfl) (by kernel_rfl) (.inr ⟨_, Take.eq (A := old W)⟩) (opv_move rfl) rfl ?_
          first
            | refine R_pure 3 rfl (by kernel_rfl) (by kernel_rfl) (by kernel_rfl) (by kernel_rfl) (.inr ⟨_, Take.eq (A := old W)⟩) (opv_indexAddr rfl rfl (by omega)) rfl ?_
            | refine R_pure 3 rfl (by kernel_rfl) (by kernel_rfl) (by kernel_rfl) (by kernel_rfl) (.inr ⟨_, Take.eq (A := old W)⟩) (opv_indexAddrA rfl rfl (by omega)) rfl ?_
          first
            | refine R_pure 4 rfl (by kernel_rfl) (by kernel_rfl) (by kernel_rfl) (by kernel_rfl) (.inr ⟨_, Take.eq (A := old W)⟩) (opv_fieldAddr0 rfl) rfl ?_
            | refine R_pure 4 rfl (by kernel_rfl) (by kernel_rfl) (by kernel_rfl) (by kernel_rfl) (.inr ⟨_, Take.eq (A := old W)⟩) (opv_fieldAddr rfl) rfl ?_
          refine R_take 5 rfl (by kernel_rfl) (by kernel_rfl) (by kernel_rfl) (by kernel_rfl) (by kernel_rfl) (opv_loadN (vs := x.m.map enc8) rfl (enc8_len hxb) (fun j u hj => Rd.of_take (S := old W) (rdM hR rfl hi j u hj))) rfl ?_
          refine R_pure 6 rfl (by kernel_rfl) (by kernel_rfl) (by kernel_rfl) (by kernel_rfl) (.inr ⟨_, Take.eq (A := old W)⟩) (opv_move rfl) rfl ?_
          refine R_pure 7 rfl (by kernel_rfl) (by kernel_rfl) (by kernel_rfl) (by kernel_rfl) (.inr ⟨_, Take.eq (A := old W)⟩) (opv_move rfl) rfl ?_
          first
            | refine R_pure 8 rfl (by kernel_rfl) (by kernel_rfl) (by kernel_rfl) (by kernel_rfl) (.inr ⟨_, Take.eq (A := old W)⟩) (opv_indexAddr rfl rfl (by omega)) rfl ?_
            | refine R_pure 8 rfl (by kernel_rfl) (by kernel_rfl) (by kernel_rfl) (by kernel_rfl) (.inr ⟨_, Take.eq (A := old W)⟩) (opv_indexAddrA rfl rfl (by omega)) rfl ?_
          first
            | refine R_pure 9 rfl (by kernel_rfl) (by kernel_rfl) (by kernel_rfl) (by kernel_rfl) (.inr ⟨_, Take.eq (A := old W)⟩) (opv_fieldAddr0 rfl) rfl ?_
            | refine R_pure 9 rfl (by kernel_rfl) (by kernel_rfl) (by kernel_rfl) (by kernel_rfl) (.inr ⟨_, Take.eq (A := old W)⟩) (opv_fieldAddr rfl) rfl ?_
          refine R_take 10 rfl (by kernel_rfl) (by kernel_rfl) (by kernel_rfl) (by kernel_rfl) (by kernel_rfl) (opv_load rfl (Rd.of_take (S := old W) (rdN hR rfl hi hxb))) rfl ?_
          refine R_only 11 rfl rfl (by kernel_rfl) (opx_call0 (Put_q b15 z.2.1 z.2.2 x.m hxb x.n) rfl rfl rfl) (fun _ _ => ⟨_, Take.eq (A := old W)⟩) (.inl (by kernel_rfl)) (fun _ _ => ?_)
          refine R_done (by kernel_rfl) ?_
          refine K_then ?_
          refine J_seq ?_
          refine J_region ?_
          refine L_v (opv_move rfl) rfl ?_
          refine L_v (opv_loadW rfl (enc8_len hb)) rfl ?_
          refine L_x rfl (opx_call0 (Get_q b15 (gput z.2.1 x.m x.n) (x.m :: z.2.2) ms hb) rfl rfl rfl) (fun _ _ => ?_)
          refine L_v (opv_move rfl) rfl ?_
          first
            | refine L_v (opv_extract (v := .int .i64 ((gput z.2.1 x.m x.n ms).getD 0)) rfl rfl) rfl ?_
            | refine L_v (opv_extract (v := .int .i64 ((gdel z.2.1 x.m ms).getD 0)) rfl rfl) rfl ?_
          first
            | refine L_v (opv_extract (v := .bool (gput z.2.1 x.m x.n ms).isSome) rfl rfl) rfl ?_
            | refine L_v (opv_extract (v := .bool (gdel z.2.1 x.m ms).isSome) rfl rfl) rfl ?_
          refine L_v (opv_assign rfl) rfl ?_
          refine L_v (opv_assign rfl) rfl ?_
          refine L_nil ?_
          refine K_then ?_
          refine J_seq ?_
          refine J_region ?_
          refine L_v (opv_move rfl) rfl ?_
          refine L_v (opv_move rfl) rfl ?_
          refine L_v ((opv_neq rfl rfl).bool_f (by simp [gput_other hne, gdel_other hne, hz.2.2.1])) rfl ?_
          refine L_v (opv_move rfl) rfl ?_
          refine L_gon rfl rfl rfl ?_
          refine L_v (opv_move rfl) rfl ?_
          refine L_gon rfl rfl rfl ?_
          refine L_v ((opv_not rfl).as (v' := .bool false) (by simp [gput_other hne, gdel_other hne, hz.2.2.1])) rfl ?_
          first
            | refine L_v (opv_pick_tt rfl rfl) rfl ?_
            | refine L_v (opv_pick_ff rfl rfl) rfl ?_
            | refine L_v (opv_pick rfl rfl rfl) rfl ?_
          refine L_nil ?_
          refine K_then ?_
          refine J_cond_false rfl ?_
          refine J_skip ?_
          refine K_block ?_
          refine K_then ?_
          refine J_region ?_
          refine L_v (opv_move rfl) rfl ?_
          first
            | refine L_v (opv_add64 rfl rfl (by omega)) rfl ?_
            | refine L_v (opv_addS rfl rfl (by omega)) rfl ?_
            | refine L_v (opv_add rfl rfl) rfl ?_
          refine L_v (opv_assign rfl) rfl ?_
          refine L_nil ?_
          exact K_loop ((z.1 + 1, gput z.2.1 x.m x.n, x.m :: z.2.2)) ⟨by show z.1 + 1 ≤ _; omega, by show z.1 + 1 ≤ 60; omega, by show gput z.2.1 x.m x.n ms = _; rw [gput_other hne]; exact hz.2.2.1, by show (x.m :: z.2.2).length ≤ z.1 + 1 + 1; rw [List.length_cons]; omega⟩ (by show xs.length - (z.1 + 1) < _; omega) ⟨rfl, rfl, rfl, rfl, rfl, trivial⟩ Ent.take
        · refine J_region ?_
          refine L_v (opv_move rfl) rfl ?_
          refine L_v (opv_move rfl) rfl ?_
          refine L_v (opv_move rfl) rfl ?_
          first
            | refine L_v (opv_indexAddr rfl rfl (by omega)) rfl ?_
            | refine L_v (opv_indexAddrA rfl rfl (by omega)) rfl ?_
          first
            | refine L_v (opv_fieldAddr0 rfl) rfl ?_
            | refine L_v (opv_fieldAddr rfl) rfl ?_
          refine L_v (opv_loadN (vs := x.m.map enc8) rfl (enc8_len hxb) (fun j u hj => Rd.of_take (S := old W) (rdM hR rfl hi j u hj))) rfl ?_
          refine L_x rfl (opx_call0 (Drop_q b15 z.2.1 z.2.2 x.m hxb) rfl rfl rfl) (fun _ _ => ?_)
          refine L_nil ?_
          refine K_then ?_
          refine J_seq ?_
          refine J_region ?_
          refine L_v (opv_move rfl) rfl ?_
          refine L_v (opv_loadW rfl (enc8_len hb)) rfl ?_
          refine L_x rfl (opx_call0 (Get_q b15 (gdel z.2.1 x.m) (z.2.2) ms hb) rfl rfl rfl) (fun _ _ => ?_)
          refine L_v (opv_move rfl) rfl ?_
          first
            | refine L_v (opv_extract (v := .int .i64 ((gput z.2.1 x.m x.n ms).getD 0)) rfl rfl) rfl ?_
            | refine L_v (opv_extract (v := .int .i64 ((gdel z.2.1 x.m ms).getD 0)) rfl rfl) rfl ?_
          first
            | refine L_v (opv_extract (v := .bool (gput z.2.1 x.m x.n ms).isSome) rfl rfl) rfl ?_
            | refine L_v (opv_extract (v := .bool (gdel z.2.1 x.m ms).isSome) rfl rfl) rfl ?_
          refine L_v (opv_assign rfl) rfl ?_
          refine L_v (opv_assign rfl) rfl ?_
          refine L_nil ?_
          refine K_then ?_
          refine J_seq ?_
          refine J_region ?_
          refine L_v (opv_move rfl) rfl ?_
          refine L_v (opv_move rfl) rfl ?_
          refine L_v ((opv_neq rfl rfl).bool_f (by simp [gput_other hne, gdel_other hne, hz.2.2.1])) rfl ?_
          refine L_v (opv_move rfl) rfl ?_
          refine L_gon rfl rfl rfl ?_
          refine L_v (opv_move rfl) rfl ?_
          refine L_gon rfl rfl rfl ?_
          refine L_v ((opv_not rfl).as (v' := .bool false) (by simp [gput_other hne, gdel_other hne, hz.2.2.1])) rfl ?_
          first
            | refine L_v (opv_pick_tt rfl rfl) rfl ?_
            | refine L_v (opv_pick_ff rfl rfl) rfl ?_
            | refine L_v (opv_pick rfl rfl rfl) rfl ?_
          refine L_nil ?_
          refine K_then ?_
          refine J_cond_false rfl ?_
          refine J_skip ?_
          refine K_block ?_
          refine K_then ?_
          refine J_region ?_
          refine L_v (opv_move rfl) rfl ?_
          first
            | refine L_v (opv_add64 rfl rfl (by omega)) rfl ?_
            | refine L_v (opv_addS rfl rfl (by omega)) rfl ?_
            | refine L_v (opv_add rfl rfl) rfl ?_
          refine L_v (opv_assign rfl) rfl ?_
          refine L_nil ?_
          exact K_loop ((z.1 + 1, gdel z.2.1 x.m, z.2.2)) ⟨by show z.1 + 1 ≤ _; omega, by show z.1 + 1 ≤ 60; omega, by show gdel z.2.1 x.m ms = _; rw [gdel_other hne]; exact hz.2.2.1, by show z.2.2.length ≤ z.1 + 1 + 1; omega⟩ (by show xs.length - (z.1 + 1) < _; omega) ⟨rfl, rfl, rfl, rfl, rfl, trivial⟩ Ent.take
    · refine J_exit ?_
      refine K_then_exit ?_
      refine K_then_exit ?_
      refine K_block_here ?_
      refine K_then ?_
      refine J_seq ?_
      refine J_region ?_
      refine L_v (opv_move rfl) rfl ?_
      refine L_x rfl (opx_call0 (All_q b15 z.2.1 z.2.2 (by omega)) rfl rfl rfl) (fun y hy => ?_)
      have hy1 : 1 ≤ y.2.2.length := List.length_pos_of_mem ((hy.1.2 (m6 ms hb)).2 (by show (z.2.1 ms).isSome = true; rw [hz.2.2.1]; rfl))
      refine L_v (opv_assign rfl) rfl ?_
      refine L_nil ?_
      refine K_then ?_
      refine J_seq ?_
      refine J_seq ?_
      refine J_region ?_
      refine L_v (opv_move rfl) rfl ?_
      first
        | refine L_v (opv_lenL rfl) rfl ?_
        | refine L_v (opv_lenS rfl) rfl ?_
      refine L_v ((opv_lss rfl rfl).bool_f (by omega)) rfl ?_
      refine L_v (opv_move rfl) rfl ?_
      refine L_gon rfl rfl rfl ?_
      refine L_v (opv_move rfl) rfl ?_
      refine L_gon rfl rfl rfl ?_
      refine L_v (opv_loadW rfl (enc8_len hb)) rfl ?_
      refine L_gon rfl rfl rfl ?_
      refine L_x rfl (opx_call0 (Drop_q b15 z.2.1 z.2.2 ms hb) rfl rfl rfl) (fun _ _ => ?_)
      refine L_gon rfl rfl rfl ?_
      refine L_v ((opv_not rfl).as (v' := .bool false) (by rw [hz.2.2.1]; rfl)) rfl ?_
      first
        | refine L_v (opv_pick_tt rfl rfl) rfl ?_
        | refine L_v (opv_pick_ff rfl rfl) rfl ?_
        | refine L_v (opv_pick rfl rfl rfl) rfl ?_
      refine L_v (opv_move rfl) rfl ?_
      refine L_gon rfl rfl rfl ?_
      refine L_v (opv_move rfl) rfl ?_
      refine L_gon rfl rfl rfl ?_
      refine L_v (opv_loadW rfl (enc8_len hb)) rfl ?_
      refine L_gon rfl rfl rfl ?_
      refine L_x rfl (opx_call0 (Drop_gone b15 z.2.1 z.2.2 ms hb) rfl rfl rfl) (fun _ _ => ?_)
      first
        | refine L_v (opv_pick_tt rfl rfl) rfl ?_
        | refine L_v (opv_pick_ff rfl rfl) rfl ?_
        | refine L_v (opv_pick rfl rfl rfl) rfl ?_
      refine L_v (opv_move rfl) rfl ?_
      refine L_gon rfl rfl rfl ?_
      refine L_v (opv_move rfl) rfl ?_
      refine L_gon rfl rfl rfl ?_
      refine L_x rfl (opx_call0 (All_q b15 (gdel (gdel z.2.1 ms) ms) z.2.2 (by omega)) rfl rfl rfl) (fun y2 hy2 => ?_)
      have hdel := AllG.del hb hy.1 (gdel2 (g := z.2.1) (l := ms) ▸ hy2.1) (by rw [hz.2.2.1]; rfl)
      refine L_gon rfl rfl rfl ?_
      first
        | refine L_v (opv_lenL rfl) rfl ?_
        | refine L_v (opv_lenS rfl) rfl ?_
      refine L_gon rfl rfl rfl ?_
      refine L_v (opv_move rfl) rfl ?_
      refine L_gon rfl rfl rfl ?_
      first
        | refine L_v (opv_lenL rfl) rfl ?_
        | refine L_v (opv_lenS rfl) rfl ?_
      refine L_gon rfl rfl rfl ?_
      first
        | refine L_v (opv_sub64 rfl rfl (by omega)) rfl ?_
        | refine L_v (opv_sub rfl rfl) rfl ?_
      refine L_gon rfl rfl rfl ?_
      refine L_v ((opv_neq rfl rfl).bool_f (by omega)) rfl ?_
      first
        | refine L_v (opv_pick_tt rfl rfl) rfl ?_
        | refine L_v (opv_pick_ff rfl rfl) rfl ?_
        | refine L_v (opv_pick rfl rfl rfl) rfl ?_
      refine L_nil ?_
      refine K_then ?_
      refine J_cond_false rfl ?_
      refine J_skip ?_
      refine K_then ?_
      refine J_seq ?_
      refine J_region ?_
      refine L_v (opv_move rfl) rfl ?_
      refine L_v (opv_loadW rfl (enc8_len hb)) rfl ?_
      refine L_x rfl (opx_call0 (Get_q b15 (gdel (gdel z.2.1 ms) ms) z.2.2 ms hb) rfl rfl rfl) (fun _ _ => ?_)
      refine L_v (opv_move rfl) rfl ?_
      refine L_v (opv_extract (v := .int .i64 ((gdel (gdel z.2.1 ms) ms ms).getD 0)) rfl rfl) rfl ?_
      refine L_v ((opv_extract (v := .bool (gdel (gdel z.2.1 ms) ms ms).isSome) rfl rfl).as (v' := .bool false) (by rw [gdel_same]; rfl)) rfl ?_
      refine L_v (opv_assign rfl) rfl ?_
      refine L_v (opv_assign rfl) rfl ?_
      refine L_nil ?_
      refine K_then ?_
      refine J_seq ?_
      refine J_region ?_
      refine L_v (opv_move rfl) rfl ?_
      first
        | refine L_v (opv_notD rfl) rfl ?_
        | refine L_v (opv_not rfl) rfl ?_
      refine L_v (opv_move rfl) rfl ?_
      refine L_gon rfl rfl rfl ?_
      refine L_x rfl (opx_call0 (awake_spec W hW) rfl rfl rfl) (fun _ _ => ?_)
      first
        | refine L_v (opv_pick_tt rfl rfl) rfl ?_
        | refine L_v (opv_pick_ff rfl rfl) rfl ?_
        | refine L_v (opv_pick rfl rfl rfl) rfl ?_
      refine L_v (opv_assign rfl) rfl ?_
      refine L_nil ?_
      refine K_then ?_
      refine J_ret ?_
      exact K_ret1 rfl rfl () trivial (rfl) Ent.take
  · refine L_gt_off h1 rfl rfl ?_ (fun _ h => by cases h; rfl)
    refine L_v (opv_pick_f rfl h1 rfl) rfl ?_
    refine L_nil ?_
    refine K_then ?_
    refine J_cond_false rfl ?_
    refine J_exit ?_
    refine K_then_exit ?_
    refine K_then_exit ?_
    refine K_block_here ?_
    refine K_then ?_
    refine J_seq ?_
    refine J_region ?_
    refine L_v (opv_move rfl) rfl ?_
    refine L_x rfl (opx_call0 (All_q b15 z.2.1 z.2.2 (by omega)) rfl rfl rfl) (fun y hy => ?_)
    have hy1 : 1 ≤ y.2.2.length := List.length_pos_of_mem ((hy.1.2 (m6 ms hb)).2 (by show (z.2.1 ms).isSome = true; rw [hz.2.2.1]; rfl))
    refine L_v (opv_assign rfl) rfl ?_
    refine L_nil ?_
    refine K_then ?_
    refine J_seq ?_
    refine J_seq ?_
    refine J_region ?_
    refine L_v (opv_move rfl) rfl ?_
    first
      | refine L_v (opv_lenL rfl) rfl ?_
      | refine L_v (opv_lenS rfl) rfl ?_
    refine L_v ((opv_lss rfl rfl).bool_f (by omega)) rfl ?_
    refine L_v (opv_move rfl) rfl ?_
    refine L_gon rfl rfl rfl ?_
    refine L_v (opv_move rfl) rfl ?_
    refine L_gon rfl rfl rfl ?_
    refine L_v (opv_loadW rfl (enc8_len hb)) rfl ?_
    refine L_gon rfl rfl rfl ?_
    refine L_x rfl (opx_call0 (Drop_q b15 z.2.1 z.2.2 ms hb) rfl rfl rfl) (fun _ _ => ?_)
    refine L_gon rfl rfl rfl ?_
    refine L_v ((opv_not rfl).as (v' := .bool false) (by rw [hz.2.2.1]; rfl)) rfl ?_
    first
      | refine L_v (opv_pick_tt rfl rfl) rfl ?_
      | refine L_v (opv_pick_ff rfl rfl) rfl ?_
      | refine L_v (opv_pick rfl rfl rfl) rfl ?_
    refine L_v (opv_move rfl) rfl ?_
    refine L_gon rfl rfl rfl ?_
    refine L_v (opv_move rfl) rfl ?_
    refine L_gon rfl rfl rfl ?_
    refine L_v (opv_loadW rfl (enc8_len hb)) rfl ?_
    refine L_gon rfl rfl rfl ?_
    refine L_x rfl (opx_call0 (Drop_gone b15 z.2.1 z.2.2 ms hb) rfl rfl rfl) (fun _ _ => ?_)
    first
      | refine L_v (opv_pick_tt rfl rfl) rfl ?_
      | refine L_v (opv_pick_ff rfl rfl) rfl ?_
      | refine L_v (opv_pick rfl rfl rfl) rfl ?_
    refine L_v (opv_move rfl) rfl ?_
    refine L_gon rfl rfl rfl ?_
    refine L_v (opv_move rfl) rfl ?_
    refine L_gon rfl rfl rfl ?_
    refine L_x rfl (opx_call0 (All_q b15 (gdel (gdel z.2.1 ms) ms) z.2.2 (by omega)) rfl rfl rfl) (fun y2 hy2 => ?_)
    have hdel := AllG.del hb hy.1 (gdel2 (g := z.2.1) (l := ms) ▸ hy2.1) (by rw [hz.2.2.1]; rfl)
    refine L_gon rfl rfl rfl ?_
    first
      | refine L_v (opv_lenL rfl) rfl ?_
      | refine L_v (opv_lenS rfl) rfl ?_
    refine L_gon rfl rfl rfl ?_
    refine L_v (opv_move rfl) rfl ?_
    refine L_gon rfl rfl rfl ?_
    first
      | refine L_v (opv_lenL rfl) rfl ?_
      | refine L_v (opv_lenS rfl) rfl ?_
    refine L_gon rfl rfl rfl ?_
    first
      | refine L_v (opv_sub64 rfl rfl (by omega)) rfl ?_
      | refine L_v (opv_sub rfl rfl) rfl ?_
    refine L_gon rfl rfl rfl ?_
    refine L_v ((opv_neq rfl rfl).bool_f (by omega)) rfl ?_
    first
      | refine L_v (opv_pick_tt rfl rfl) rfl ?_
      | refine L_v (opv_pick_ff rfl rfl) rfl ?_
      | refine L_v (opv_pick rfl rfl rfl) rfl ?_
    refine L_nil ?_
    refine K_then ?_
    refine J_cond_false rfl ?_
    refine J_skip ?_
    refine K_then ?_
    refine J_seq ?_
    refine J_region ?_
    refine L_v (opv_move rfl) rfl ?_
    refine L_v (opv_loadW rfl (enc8_len hb)) rfl ?_
    refine L_x rfl (opx_call0 (Get_q b15 (gdel (gdel z.2.1 ms) ms) z.2.2 ms hb) rfl rfl rfl) (fun _ _ => ?_)
    refine L_v (opv_move rfl) rfl ?_
    refine L_v (opv_extract (v := .int .i64 ((gdel (gdel z.2.1 ms) ms ms).getD 0)) rfl rfl) rfl ?_
    refine L_v ((opv_extract (v := .bool (gdel (gdel z.2.1 ms) ms ms).isSome) rfl rfl).as (v' := .bool false) (by rw [gdel_same]; rfl)) rfl ?_
    refine L_v (opv_assign rfl) rfl ?_
    refine L_v (opv_assign rfl) rfl ?_
    refine L_nil ?_
    refine K_then ?_
    refine J_seq ?_
    refine J_region ?_
    refine L_v (opv_move rfl) rfl ?_
    first
      | refine L_v (opv_notD rfl) rfl ?_
      | refine L_v (opv_not rfl) rfl ?_
    refine L_v (opv_move rfl) rfl ?_
    refine L_gon rfl rfl rfl ?_
    refine L_x rfl (opx_call0 (awake_spec W hW) rfl rfl rfl) (fun _ _ => ?_)
    first
      | refine L_v (opv_pick_tt rfl rfl) rfl ?_
      | refine L_v (opv_pick_ff rfl rfl) rfl ?_
      | refine L_v (opv_pick rfl rfl rfl) rfl ?_
    refine L_v (opv_assign rfl) rfl ?_
    refine L_nil ?_
    refine K_then ?_
    refine J_ret ?_
    exact K_ret1 rfl rfl () trivial (rfl) Ent.take


theorem AddrKeeps_law (W : World) (hW : W.cell? (ad 7 15) = some (.int .u8 4)) (ms : List Nat) (hb : Bys 6 ms) (n : Int) (A : Option Addr) (len c : Nat) (xs : List OpA) (h : ArrIn W encOpA 8 A len xs) (hl : len ≤ c) (hc : c ≤ maxLen) (hx : ∀ x ∈ xs, okOpA x) : FSpec Tryd.prog 8 #[ag ms, .int .i64 n, .slice A len c] (old W) (fun _ : Unit => True) (fun _ => .bool true) (fun _ => old W) := by
  have e := h.1
  subst e
  exact AddrKeeps_spec W hW ms hb n A c xs (RdS.old h) (by unfold maxLen at hc; omega) hx

end Go.Proofs.YtkkoepnljofhpaaDoor
