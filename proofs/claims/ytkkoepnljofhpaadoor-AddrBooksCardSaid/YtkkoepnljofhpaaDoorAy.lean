/- Contracts of the book of addresses, each proved by a walk over its code; they are used by the texts that import this one. -/
import Derived.Test.YtkkoepnljofhpaaDoorAx
import Derived.Test.YtkkoepnljofhpaaDoorH
namespace Go.Proofs.YtkkoepnljofhpaaDoor
open Go.SLA
set_option maxRecDepth 100000
set_option linter.unusedVariables false
set_option linter.unusedSimpArgs false
attribute [local irreducible] J L K QL Rg FSpec OpV OpX Rd Back

instance : MapZ Tryd.prog 58 23 (.int .i64 0) := ⟨⟨3, by kernel_rfl, by kernel_rfl⟩⟩
abbrev ks6 : List CK := [.int .u8, .int .u8, .int .u8, .int .u8, .int .u8, .int .u8]
theorem undM : Tryd.prog.underlying 58 = some (.map 23 3) := by kernel_rfl
theorem mdel_no {f : List Value → Option Value} {k : List Value} (h : f k = none) : mdel f k = f := by
  funext k'
  by_cases e : k' = k
  · subst e; rw [mdel_same, h]
  · rw [mdel_other e]

theorem Get_n (b : Nat) (l : List Nat) (hb : Bys 6 l) : FSpec Tryd.prog 30 #[.pointer (some (ad b 0)), ag l] (cel b [.map none] 60) (fun _ : Unit => True) (fun _ => .tuple #[.int .i64 0, .bool false]) (fun _ => cel b [.map none] 60) := by
  refine FSpec.enter' Tryd.func30 rfl Tryd.ntmps30 rfl fun σ F => ?_
  refine J_seq ?_
  refine J_region ?_
  refine L_x rfl (opx_box (l := l.map enc8) rfl rfl) (fun b3 _ => ?_)
  refine L_v (opv_assign rfl) rfl ?_
  refine L_v (opv_assign rfl) rfl ?_
  refine L_nil ?_
  refine K_then ?_
  refine J_seq ?_
  refine J_seq ?_
  refine J_region ?_
  refine L_v (opv_move rfl) rfl ?_
  first
    | refine L_v (opv_eql rfl rfl) rfl ?_
    | refine L_v (opv_eqlS rfl rfl) rfl ?_
    | refine L_v (opv_eqlNil rfl rfl) rfl ?_
    | refine L_v (opv_eqlB rfl rfl) rfl ?_
  refine L_nil ?_
  refine K_then ?_
  refine J_cond_false rfl ?_
  refine J_skip ?_
  refine K_then ?_
  refine J_seq ?_
  refine J_quiet Tryd.mixed (by kernel_rfl) ?_
  refine Q_v (opv_move rfl) rfl ?_
  refine Q_v (opv_nilCheck rfl) rfl ?_
  first
    | refine Q_v (opv_fieldAddr0 rfl) rfl ?_
    | refine Q_v (opv_fieldAddr rfl) rfl ?_
  refine Q_v (opv_load rfl (Rd.look rfl)) rfl ?_
  refine Q_v (opv_loadW rfl (enc8_len hb)) rfl ?_
  refine Q_v (opv_lookupOkN (k := l.map enc8) rfl rfl (shape6 hb)) rfl ?_
  refine Q_v (opv_move rfl) rfl ?_
  refine Q_v (opv_extract rfl rfl) rfl ?_
  refine Q_v (opv_extract rfl rfl) rfl ?_
  refine Q_v (opv_assign rfl) rfl ?_
  refine Q_v (opv_assign rfl) rfl ?_
  refine QL_nil ?_
  refine K_then ?_
  refine J_seq ?_
  refine J_region ?_
  refine L_v (opv_move rfl) rfl ?_
  refine L_v (opv_move rfl) rfl ?_
  refine L_v (opv_assign rfl) rfl ?_
  refine L_v (opv_assign rfl) rfl ?_
  refine L_nil ?_
  refine K_then ?_
  refine J_ret ?_
  exact K_ret2 rfl rfl rfl () trivial rfl Ent.take

theorem Get_s (b r : Nat) (f : List Value → Option Value) (l : List Nat) (hb : Bys 6 l) : FSpec Tryd.prog 30 #[.pointer (some (ad b 0)), ag l] ((sep (cel b [.map (some r)] 60) (mapq r ks6 (f)))) (fun _ : Unit => True) (fun _ => .tuple #[(f (l.map enc8)).getD (.int .i64 0), .bool (f (l.map enc8)).isSome]) (fun _ => (sep (cel b [.map (some r)] 60) (mapq r ks6 (f)))) := by
  refine FSpec.enter' Tryd.func30 rfl Tryd.ntmps30 rfl fun σ F => ?_
  refine J_seq ?_
  refine J_region ?_
  refine L_x rfl (opx_box (l := l.map enc8) rfl rfl) (fun b3 _ => ?_)
  refine L_v (opv_assign rfl) rfl ?_
  refine L_v (opv_assign rfl) rfl ?_
  refine L_nil ?_
  refine K_then ?_
  refine J_seq ?_
  refine J_seq ?_
  refine J_region ?_
  refine L_v (opv_move rfl) rfl ?_
  first
    | refine L_v (opv_eql rfl rfl) rfl ?_
    | refine L_v (opv_eqlS rfl rfl) rfl ?_
    | refine L_v (opv_eqlNil rfl rfl) rfl ?_
    | refine L_v (opv_eqlB rfl rfl) rfl ?_
  refine L_nil ?_
  refine K_then ?_
  refine J_cond_false rfl ?_
  refine J_skip ?_
  refine K_then ?_
  refine J_seq ?_
  refine J_quiet Tryd.mixed (by kernel_rfl) ?_
  refine Q_v (opv_move rfl) rfl ?_
  refine Q_v (opv_nilCheck rfl) rfl ?_
  first
    | refine Q_v (opv_fieldAddr0 rfl) rfl ?_
    | refine Q_v (opv_fieldAddr rfl) rfl ?_
  refine Q_v (opv_load rfl (Rd.look rfl)) rfl ?_
  refine Q_v (opv_loadW rfl (enc8_len hb)) rfl ?_
  refine Q_v (opv_lookupOkq (k := l.map enc8) (f := f) (r := r) rfl rfl (shape6 hb)) rfl ?_
  refine Q_v (opv_move rfl) rfl ?_
  refine Q_v (opv_extract (v := (f (l.map enc8)).getD (.int .i64 0)) rfl rfl) rfl ?_
  refine Q_v (opv_extract (v := .bool (f (l.map enc8)).isSome) rfl rfl) rfl ?_
  refine Q_v (opv_assign rfl) rfl ?_
  refine Q_v (opv_assign rfl) rfl ?_
  refine QL_nil ?_
  refine K_then ?_
  refine J_seq ?_
  refine J_region ?_
  refine L_v (opv_move rfl) rfl ?_
  refine L_v (opv_move rfl) rfl ?_
  refine L_v (opv_assign rfl) rfl ?_
  refine L_v (opv_assign rfl) rfl ?_
  refine L_nil ?_
  refine K_then ?_
  refine J_ret ?_
  exact K_ret2 rfl rfl rfl () trivial rfl Ent.take

theorem Drop_n (b : Nat) (l : List Nat) (hb : Bys 6 l) : FSpec Tryd.prog 32 #[.pointer (some (ad b 0)), ag l] (cel b [.map none] 60) (fun _ : Unit => True) (fun _ => .bool false) (fun _ => cel b [.map none] 60) := by
  refine FSpec.enter' Tryd.func32 rfl Tryd.ntmps32 rfl fun σ F => ?_
  refine J_seq ?_
  refine J_region ?_
  refine L_x rfl (opx_box (l := l.map enc8) rfl rfl) (fun b3 _ => ?_)
  refine L_v (opv_assign rfl) rfl ?_
  refine L_nil ?_
  refine K_then ?_
  refine J_seq ?_
  refine J_region ?_
  refine L_v (opv_move rfl) rfl ?_
  refine L_v (opv_loadW rfl (enc8_len hb)) rfl ?_
  refine L_x rfl (opx_call0 (Get_n b l hb) rfl rfl rfl) (fun _ _ => ?_)
  refine L_v (opv_move rfl) rfl ?_
  refine L_v (opv_extract rfl rfl) rfl ?_
  refine L_v (opv_extract rfl rfl) rfl ?_
  refine L_v (opv_assign rfl) rfl ?_
  refine L_v (opv_assign rfl) rfl ?_
  refine L_nil ?_
  refine K_then ?_
  refine J_seq ?_
  refine J_seq ?_
  refine J_region ?_
  refine L_v (opv_move rfl) rfl ?_
  refine L_nil ?_
  refine K_then ?_
  refine J_cond_false rfl ?_
  refine J_skip ?_
  refine K_then ?_
  refine J_seq ?_
  refine J_region ?_
  refine L_v (opv_move rfl) rfl ?_
  refine L_v (opv_assign rfl) rfl ?_
  refine L_nil ?_
  refine K_then ?_
  refine J_ret ?_
  exact K_ret1 rfl rfl () trivial (rfl) Ent.take

theorem Drop_s (b r : Nat) (f : List Value → Option Value) (l : List Nat) (hb : Bys 6 l) : FSpec Tryd.prog 32 #[.pointer (some (ad b 0)), ag l] ((sep (cel b [.map (some r)] 60) (mapq r ks6 (f)))) (fun _ : Unit => True) (fun _ => .bool (f (l.map enc8)).isSome) (fun _ => (sep (cel b [.map (some r)] 60) (mapq r ks6 (mdel f (l.map enc8))))) := by
  refine FSpec.enter' Tryd.func32 rfl Tryd.ntmps32 rfl fun σ F => ?_
  refine J_seq ?_
  refine J_region ?_
  refine L_x rfl (opx_box (l := l.map enc8) rfl rfl) (fun b3 _ => ?_)
  refine L_v (opv_assign rfl) rfl ?_
  refine L_nil ?_
  refine K_then ?_
  refine J_seq ?_
  refine J_region ?_
  refine L_v (opv_move rfl) rfl ?_
  refine L_v (opv_loadW rfl (enc8_len hb)) rfl ?_
  refine L_x rfl (opx_call0 (Get_s b r f l hb) rfl rfl rfl) (fun _ _ => ?_)
  refine L_v (opv_move rfl) rfl ?_
  refine L_v (opv_extract (v := (f (l.map enc8)).getD (.int .i64 0)) rfl rfl) rfl ?_
  refine L_v (opv_extract (v := .bool (f (l.map enc8)).isSome) rfl rfl) rfl ?_
  refine L_v (opv_assign rfl) rfl ?_
  refine L_v (opv_assign rfl) rfl ?_
  refine L_nil ?_
  refine K_then ?_
  refine J_seq ?_
  refine J_seq ?_
  refine J_region ?_
  refine L_v (opv_move rfl) rfl ?_
  refine L_nil ?_
  refine K_then ?_
  refine J_cond_bool rfl (fun h1 => ?_) (fun h1 => ?_)
  · refine J_steps ((sep (cel b3 (l.map enc8) 23) (cel b [.map (some r)] 60))) ((sep (cel b3 (l.map enc8) 23) (cel b [.map (some r)] 60))) [5] Tryd.mixed ?_
    refine R_pure 0 rfl (by kernel_rfl) (by kernel_rfl) (by kernel_rfl) (by kernel_rfl) (.inr ⟨_, Take.eq (A := (sep (cel b3 (l.map enc8) 23) (cel b [.map (some r)] 60)))⟩) (opv_move rfl) rfl ?_
    refine R_pure 1 rfl (by kernel_rfl) (by kernel_rfl) (by kernel_rfl) (by kernel_rfl) (.inr ⟨_, Take.eq (A := (sep (cel b3 (l.map enc8) 23) (cel b [.map (some r)] 60)))⟩) (opv_nilCheck rfl) rfl ?_
    first
      | refine R_pure 2 rfl (by kernel_rfl) (by kernel_rfl) (by kernel_rfl) (by kernel_rfl) (.inr ⟨_, Take.eq (A := (sep (cel b3 (l.map enc8) 23) (cel b [.map (some r)] 60)))⟩) (opv_fieldAddr0 rfl) rfl ?_
      | refine R_pure 2 rfl (by kernel_rfl) (by kernel_rfl) (by kernel_rfl) (by kernel_rfl) (.inr ⟨_, Take.eq (A := (sep (cel b3 (l.map enc8) 23) (cel b [.map (some r)] 60)))⟩) (opv_fieldAddr rfl) rfl ?_
    refine R_take 3 rfl (by kernel_rfl) (by kernel_rfl) (by kernel_rfl) (by kernel_rfl) (by kernel_rfl) (opv_load rfl (Rd.look rfl)) rfl ?_
    refine R_take 4 rfl (by kernel_rfl) (by kernel_rfl) (by kernel_rfl) (by kernel_rfl) (by kernel_rfl) (opv_loadW rfl (enc8_len hb)) rfl ?_
    refine R_only 5 rfl rfl (by kernel_rfl) (opx_deleteq (k := l.map enc8) (f := f) (r := r) rfl rfl (shape6 hb)) (fun _ _ => ⟨_, Take.eq (A := (sep (cel b3 (l.map enc8) 23) (cel b [.map (some r)] 60)))⟩) (.inl (by kernel_rfl)) (fun _ _ => ?_)
    refine R_done (by kernel_rfl) ?_
    refine K_then ?_
    refine J_seq ?_
    refine J_region ?_
    refine L_v (opv_move rfl) rfl ?_
    refine L_v (opv_assign rfl) rfl ?_
    refine L_nil ?_
    refine K_then ?_
    refine J_ret ?_
    exact K_ret1 rfl rfl () trivial (rfl) Ent.take
  · refine J_skip ?_
    refine K_then ?_
    refine J_seq ?_
    refine J_region ?_
    refine L_v (opv_move rfl) rfl ?_
    refine L_v (opv_assign rfl) rfl ?_
    refine L_nil ?_
    refine K_then ?_
    refine J_ret ?_
    rw [mdel_no (Option.isSome_eq_false_iff.1 (by assumption) |> Option.isNone_iff_eq_none.1)]
    exact K_ret1 rfl rfl () trivial (rfl) Ent.take

theorem Put_s (b r : Nat) (f : List Value → Option Value) (n : Int) (l : List Nat) (hb : Bys 6 l) : FSpec Tryd.prog 28 #[.pointer (some (ad b 0)), ag l, .int .i64 n] ((sep (cel b [.map (some r)] 60) (mapq r ks6 (f)))) (fun _ : Unit => True) (fun _ => .tuple #[(f (l.map enc8)).getD (.int .i64 0), .bool (f (l.map enc8)).isSome]) (fun _ => (sep (cel b [.map (some r)] 60) (mapq r ks6 (mput f (l.map enc8) (.int .i64 n))))) := by
  refine FSpec.enter' Tryd.func28 rfl Tryd.ntmps28 rfl fun σ F => ?_
  refine J_seq ?_
  refine J_region ?_
  refine L_x rfl (opx_box (l := l.map enc8) rfl rfl) (fun b4 _ => ?_)
  refine L_v (opv_assign rfl) rfl ?_
  refine L_v (opv_assign rfl) rfl ?_
  refine L_nil ?_
  refine K_then ?_
  refine J_seq ?_
  refine J_seq ?_
  refine J_region ?_
  refine L_v (opv_move rfl) rfl ?_
  first
    | refine L_v (opv_eql rfl rfl) rfl ?_
    | refine L_v (opv_eqlS rfl rfl) rfl ?_
    | refine L_v (opv_eqlNil rfl rfl) rfl ?_
    | refine L_v (opv_eqlB rfl rfl) rfl ?_
  refine L_nil ?_
  refine K_then ?_
  refine J_cond_false rfl ?_
  refine J_skip ?_
  refine K_then ?_
  refine J_seq ?_
  refine J_quiet Tryd.mixed (by kernel_rfl) ?_
  refine Q_v (opv_move rfl) rfl ?_
  refine Q_v (opv_nilCheck rfl) rfl ?_
  first
    | refine Q_v (opv_fieldAddr0 rfl) rfl ?_
    | refine Q_v (opv_fieldAddr rfl) rfl ?_
  refine Q_v (opv_load rfl (Rd.look rfl)) rfl ?_
  refine Q_v (opv_loadW rfl (enc8_len hb)) rfl ?_
  refine Q_v (opv_lookupOkq (k := l.map enc8) (f := f) (r := r) rfl rfl (shape6 hb)) rfl ?_
  refine Q_v (opv_move rfl) rfl ?_
  refine Q_v (opv_extract (v := (f (l.map enc8)).getD (.int .i64 0)) rfl rfl) rfl ?_
  refine Q_v (opv_extract (v := .bool (f (l.map enc8)).isSome) rfl rfl) rfl ?_
  refine Q_v (opv_assign rfl) rfl ?_
  refine Q_v (opv_assign rfl) rfl ?_
  refine QL_nil ?_
  refine K_then ?_
  refine J_seq ?_
  refine J_seq ?_
  refine J_region ?_
  refine L_v (opv_move rfl) rfl ?_
  refine L_v (opv_nilCheck rfl) rfl ?_
  first
    | refine L_v (opv_fieldAddr0 rfl) rfl ?_
    | refine L_v (opv_fieldAddr rfl) rfl ?_
  refine L_v (opv_load rfl (Rd.look rfl)) rfl ?_
  refine L_v (opv_eqlMapN undM rfl) rfl ?_
  refine L_nil ?_
  refine K_then ?_
  refine J_cond_false rfl ?_
  refine J_skip ?_
  refine K_then ?_
  refine J_seq ?_
  refine J_steps ((sep (cel b4 (l.map enc8) 23) (cel b [.map (some r)] 60))) ((sep (cel b4 (l.map enc8) 23) (cel b [.map (some r)] 60))) [6] Tryd.mixed ?_
  refine R_pure 0 rfl (by kernel_rfl) (by kernel_rfl) (by kernel_rfl) (by kernel_rfl) (.inr ⟨_, Take.eq (A := (sep (cel b4 (l.map enc8) 23) (cel b [.map (some r)] 60)))⟩) (opv_move rfl) rfl ?_
  refine R_pure 1 rfl (by kernel_rfl) (by kernel_rfl) (by kernel_rfl) (by kernel_rfl) (.inr ⟨_, Take.eq (A := (sep (cel b4 (l.map enc8) 23) (cel b [.map (some r)] 60)))⟩) (opv_nilCheck rfl) rfl ?_
  first
    | refine R_pure 2 rfl (by kernel_rfl) (by kernel_rfl) (by kernel_rfl) (by kernel_rfl) (.inr ⟨_, Take.eq (A := (sep (cel b4 (l.map enc8) 23) (cel b [.map (some r)] 60)))⟩) (opv_fieldAddr0 rfl) rfl ?_
    | refine R_pure 2 rfl (by kernel_rfl) (by kernel_rfl) (by kernel_rfl) (by kernel_rfl) (.inr ⟨_, Take.eq (A := (sep (cel b4 (l.map enc8) 23) (cel b [.map (some r)] 60)))⟩) (opv_fieldAddr rfl) rfl ?_
  refine R_take 3 rfl (by kernel_rfl) (by kernel_rfl) (by kernel_rfl) (by kernel_rfl) (by kernel_rfl) (opv_load rfl (Rd.look rfl)) rfl ?_
  refine R_take 4 rfl (by kernel_rfl) (by kernel_rfl) (by kernel_rfl) (by kernel_rfl) (by kernel_rfl) (opv_loadW rfl (enc8_len hb)) rfl ?_
  refine R_pure 5 rfl (by kernel_rfl) (by kernel_rfl) (by kernel_rfl) (by kernel_rfl) (.inr ⟨_, Take.eq (A := (sep (cel b4 (l.map enc8) 23) (cel b [.map (some r)] 60)))⟩) (opv_move rfl) rfl ?_
  refine R_only 6 rfl rfl (by kernel_rfl) (opx_mapUpdateq (k := l.map enc8) (f := f) (r := r) rfl rfl rfl (shape6 hb)) (fun _ _ => ⟨_, Take.eq (A := (sep (cel b4 (l.map enc8) 23) (cel b [.map (some r)] 60)))⟩) (.inl (by kernel_rfl)) (fun _ _ => ?_)
  refine R_done (by kernel_rfl) ?_
  refine K_then ?_
  refine J_seq ?_
  refine J_region ?_
  refine L_v (opv_move rfl) rfl ?_
  refine L_v (opv_move rfl) rfl ?_
  refine L_v (opv_assign rfl) rfl ?_
  refine L_v (opv_assign rfl) rfl ?_
  refine L_nil ?_
  refine K_then ?_
  refine J_ret ?_
  exact K_ret2 rfl rfl rfl () trivial rfl Ent.take

theorem Put_n (b : Nat) (n : Int) (l : List Nat) (hb : Bys 6 l) : FSpec Tryd.prog 28 #[.pointer (some (ad b 0)), ag l, .int .i64 n] (cel b [.map none] 60) (fun r : Nat => True) (fun r => .tuple #[.int .i64 0, .bool false]) (fun r => (sep (cel b [.map (some r)] 60) (mapq r ks6 (mput (fun _ => none) (l.map enc8) (.int .i64 n))))) := by
  refine FSpec.enter' Tryd.func28 rfl Tryd.ntmps28 rfl fun σ F => ?_
  refine J_seq ?_
  refine J_region ?_
  refine L_x rfl (opx_box (l := l.map enc8) rfl rfl) (fun b4 _ => ?_)
  refine L_v (opv_assign rfl) rfl ?_
  refine L_v (opv_assign rfl) rfl ?_
  refine L_nil ?_
  refine K_then ?_
  refine J_seq ?_
  refine J_seq ?_
  refine J_region ?_
  refine L_v (opv_move rfl) rfl ?_
  first
    | refine L_v (opv_eql rfl rfl) rfl ?_
    | refine L_v (opv_eqlS rfl rfl) rfl ?_
    | refine L_v (opv_eqlNil rfl rfl) rfl ?_
    | refine L_v (opv_eqlB rfl rfl) rfl ?_
  refine L_nil ?_
  refine K_then ?_
  refine J_cond_false rfl ?_
  refine J_skip ?_
  refine K_then ?_
  refine J_seq ?_
  refine J_quiet Tryd.mixed (by kernel_rfl) ?_
  refine Q_v (opv_move rfl) rfl ?_
  refine Q_v (opv_nilCheck rfl) rfl ?_
  first
    | refine Q_v (opv_fieldAddr0 rfl) rfl ?_
    | refine Q_v (opv_fieldAddr rfl) rfl ?_
  refine Q_v (opv_load rfl (Rd.look rfl)) rfl ?_
  refine Q_v (opv_loadW rfl (enc8_len hb)) rfl ?_
  refine Q_v (opv_lookupOkN (k := l.map enc8) rfl rfl (shape6 hb)) rfl ?_
  refine Q_v (opv_move rfl) rfl ?_
  refine Q_v (opv_extract rfl rfl) rfl ?_
  refine Q_v (opv_extract rfl rfl) rfl ?_
  refine Q_v (opv_assign rfl) rfl ?_
  refine Q_v (opv_assign rfl) rfl ?_
  refine QL_nil ?_
  refine K_then ?_
  refine J_seq ?_
  refine J_seq ?_
  refine J_region ?_
  refine L_v (opv_move rfl) rfl ?_
  refine L_v (opv_nilCheck rfl) rfl ?_
  first
    | refine L_v (opv_fieldAddr0 rfl) rfl ?_
    | refine L_v (opv_fieldAddr rfl) rfl ?_
  refine L_v (opv_load rfl (Rd.look rfl)) rfl ?_
  refine L_v (opv_eqlMapN undM rfl) rfl ?_
  refine L_nil ?_
  refine K_then ?_
  refine J_cond_true rfl ?_
  refine J_region ?_
  refine L_v (opv_move rfl) rfl ?_
  refine L_x rfl (opx_makeMapq ks6 rfl) (fun r _ => ?_)
  refine L_v (opv_nilCheck rfl) rfl ?_
  first
    | refine L_v (opv_fieldAddr0 rfl) rfl ?_
    | refine L_v (opv_fieldAddr rfl) rfl ?_
  refine L_x rfl (opx_store rfl rfl rfl (by simp [Value.oneCell'])) (fun _ _ => ?_)
  refine L_nil ?_
  refine K_then ?_
  refine J_seq ?_
  refine J_steps ((sep (cel b4 (l.map enc8) 23) (cel b [.map (some r)] 60))) ((sep (cel b4 (l.map enc8) 23) (cel b [.map (some r)] 60))) [6] Tryd.mixed ?_
  refine R_pure 0 rfl (by kernel_rfl) (by kernel_rfl) (by kernel_rfl) (by kernel_rfl) (.inr ⟨_, Take.eq (A := (sep (cel b4 (l.map enc8) 23) (cel b [.map (some r)] 60)))⟩) (opv_move rfl) rfl ?_
  refine R_pure 1 rfl (by kernel_rfl) (by kernel_rfl) (by kernel_rfl) (by kernel_rfl) (.inr ⟨_, Take.eq (A := (sep (cel b4 (l.map enc8) 23) (cel b [.map (some r)] 60)))⟩) (opv_nilCheck rfl) rfl ?_
  first
    | refine R_pure 2 rfl (by kernel_rfl) (by kernel_rfl) (by kernel_rfl) (by kernel_rfl) (.inr ⟨_, Take.eq (A := (sep (cel b4 (l.map enc8) 23) (cel b [.map (some r)] 60)))⟩) (opv_fieldAddr0 rfl) rfl ?_
    | refine R_pure 2 rfl (by kernel_rfl) (by kernel_rfl) (by kernel_rfl) (by kernel_rfl) (.inr ⟨_, Take.eq (A := (sep (cel b4 (l.map enc8) 23) (cel b [.map (some r)] 60)))⟩) (opv_fieldAddr rfl) rfl ?_
  refine R_take 3 rfl (by kernel_rfl) (by kernel_rfl) (by kernel_rfl) (by kernel_rfl) (by kernel_rfl) (opv_load rfl (Rd.look rfl)) rfl ?_
  refine R_take 4 rfl (by kernel_rfl) (by kernel_rfl) (by kernel_rfl) (by kernel_rfl) (by kernel_rfl) (opv_loadW rfl (enc8_len hb)) rfl ?_
  refine R_pure 5 rfl (by kernel_rfl) (by kernel_rfl) (by kernel_rfl) (by kernel_rfl) (.inr ⟨_, Take.eq (A := (sep (cel b4 (l.map enc8) 23) (cel b [.map (some r)] 60)))⟩) (opv_move rfl) rfl ?_
  refine R_only 6 rfl rfl (by kernel_rfl) (opx_mapUpdateq (k := l.map enc8) (f := fun _ => none) (r := r) rfl rfl rfl (shape6 hb)) (fun _ _ => ⟨_, Take.eq (A := (sep (cel b4 (l.map enc8) 23) (cel b [.map (some r)] 60)))⟩) (.inl (by kernel_rfl)) (fun _ _ => ?_)
  refine R_done (by kernel_rfl) ?_
  refine K_then ?_
  refine J_seq ?_
  refine J_region ?_
  refine L_v (opv_move rfl) rfl ?_
  refine L_v (opv_move rfl) rfl ?_
  refine L_v (opv_assign rfl) rfl ?_
  refine L_v (opv_assign rfl) rfl ?_
  refine L_nil ?_
  refine K_then ?_
  refine J_ret ?_
  exact K_ret2 rfl rfl rfl r trivial rfl Ent.take

end Go.Proofs.YtkkoepnljofhpaaDoor
