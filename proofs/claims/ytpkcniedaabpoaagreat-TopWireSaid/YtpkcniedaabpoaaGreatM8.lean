/- Rules of a separation logic over the model, and contracts of functions of the translation; used by the texts that import this one. -/
import Derived.RangeFuncLeaves
import Derived.RangeFuncCalls
import Derived.RangeFuncRecord
import Derived.OrdersIn
import Derived.TacticsIn
import Derived.Test.YtpkcniedaabpoaaGreatM3
import Derived.Test.YtpkcniedaabpoaaGreatM5
import Derived.Test.YtpkcniedaabpoaaGreatM6
import Derived.Test.YtpkcniedaabpoaaGreatM7
import Derived.Test.YtpkcniedaabpoaaGreatM2
import Derived.Test.YtpkcniedaabpoaaGreatM1
set_option linter.unusedVariables false
set_option linter.unusedSimpArgs false
namespace Go.SLA
variable {prog : Program} {σ : World} {n : Nat} {Q : Exit → Act → World → Prop} {E E' : Env} {P P' R F : HProp} {ops : Array Oper} {rest : List Oper} {ro : Option Nat}
/-- The fence that lets all in, in a round or not. -/
def FW (ro : Option Nat) : Fence := { Fence.wide with round := ro }
def ndef (o : Oper) : Bool := match o.op with | .defer _ => false | _ => true
theorem callsIn_FW {m : Nat} {f : FuncId} {args : Array Value} {w : World} {R : Ending → World → Prop} (h : Calls prog f args w R) : CallsIn (FW ro) m prog f args w R := by
  have := (callsIn_wide (n := m)).2 h
  cases ro with
  | none => exact this
  | some l => exact CallsIn.inRound l this
theorem rowsIn_FW {m : Nat} {row : String} {args : Array Value} {w : World} {R : Value → World → Prop} (h : Rows prog row args w R) : RowsIn (FW ro) m prog row args w R := fun c cs _ =>
  let ⟨v, w', r, s⟩ := h c cs
  ⟨v, w', r, show StepsIn (Machine.fenced prog Fence.wide) prog _ _ from stepsIn_wide.2 s⟩
theorem wp_in {m : Nat} {o : Oper} {a : Act} {w : World} {K : Act → World → Prop} (hn : ndef o = true) (h : o.wp prog a w K Q) : o.wpIn (FW ro) m prog a w K Q := by
  refine ⟨fun _ _ => trivial, ?_⟩
  rw [Oper.semAt_eq _ _ _ (fun c hc => by simp [ndef, hc] at hn)]
  unfold Oper.wp at h
  generalize (execOp a.eval o).run prog w = r at *
  cases r with
  | ok x w' =>
    cases x with
    | value v => exact h
    | skip => exact h
    | defer d => exact h
    | enter f args => exact ⟨fun h => (by cases h), callsIn_FW (Calls.mono h (fun e w'' he => by cases e <;> exact he))⟩
    | row row args => exact ⟨fun h => (by cases h), rowsIn_FW h⟩
    | _ => exact h.elim
  | halt x w' =>
    cases x with
    | panic v => exact h
    | _ => exact h.elim
/-- A continuation that no lack of room meets. -/
class NO (Q : Exit → Act → World → Prop) : Prop where
  no : ¬ LetsOut Q
instance {R : Act → World → Prop} {Q : Exit → Act → World → Prop} [h : NO Q] : NO (Exit.then R Q) := ⟨fun ⟨a, w, hq⟩ => h.no ⟨a, w, hq⟩⟩
instance {id : Nat} {Q : Exit → Act → World → Prop} [h : NO Q] : NO (Exit.inBlock id Q) := ⟨fun ⟨a, w, hq⟩ => h.no ⟨a, w, hq⟩⟩
instance {l : Nat} {R : Ending → World → Prop} : NO (roundPost prog l R) := ⟨fun ⟨_, _, h⟩ => h⟩
instance {l : Nat} {R : Ending → World → Prop} : NP (roundPost prog l R) := ⟨fun _ _ _ h => h⟩
theorem wpList_in {m : Nat} (hQ : ¬ LetsOut Q) : ∀ (l : List Oper) (a : Act) (w : World), l.all ndef = true → wpList prog ops Q l a w → wpListIn (FW ro) m prog ops Q l a w
  | [], _, _, _, h => h
  | o :: l, a, w, hl, h => by
    simp only [List.all_cons, Bool.and_eq_true] at hl
    unfold wpList at h
    unfold wpListIn
    split at h
    · rename_i hw
      rw [if_pos hw]
      rcases h with h | h
      · exact Oper.wpIn_mono (fun a' w' h' => wpList_in hQ l a' w' hl.2 h') (wp_in hl.1 h)
      · exact absurd h.2 hQ
    · rename_i hw
      rw [if_neg hw]
      exact ⟨fun _ _ => trivial, wpList_in hQ l _ w hl.2 h⟩
theorem wpAny_in {m : Nat} {md : Region.Mode} (hQ : ¬ LetsOut Q) (ho : ops.toList.all ndef = true) : ∀ (fuel : Nat) (listed : Array Bool) (a : Act) (w : World), wpAny prog md ops Q fuel listed a w → wpAnyIn (FW ro) m prog md ops Q fuel listed a w
  | 0, _, _, _, h => h
  | fuel + 1, listed, a, w, h => ⟨h.1, fun i hi => by
    have h2 := h.2 i hi
    unfold wpOp at h2
    unfold wpOpIn
    cases hoi : ops[i]? with
    | none => simp only [hoi] at h2 ⊢; exact wpAny_in hQ ho fuel _ a w h2
    | some o =>
      simp only [hoi] at h2 ⊢
      have hnd : ndef o = true := List.all_eq_true.1 ho o (by rw [Array.mem_toList_iff]; exact Array.mem_of_getElem? hoi)
      split at h2
      · rename_i hw
        rw [if_pos hw]
        rcases h2 with h2 | h2
        · exact Oper.wpIn_mono (fun a' w' h' => wpAny_in hQ ho fuel _ a' w' h') (wp_in hnd h2)
        · exact absurd h2.2 hQ
      · rename_i hw
        rw [if_neg hw]
        exact ⟨fun _ _ => trivial, wpAny_in hQ ho fuel _ _ w h2⟩⟩
/-! ### Code within a round -/
section
variable (prog) (σ) (n) (ro)
def JI (c : Code) (Q : Exit → Act → World → Prop) (E : Env) (P : HProp) : Prop := ∀ a w, Agree n E a → Sat σ w P → c.wpIn (FW ro) 0 prog Q a w
def LI (ops : Array Oper) (rest : List Oper) (Q : Exit → Act → World → Prop) (E : Env) (P : HProp) : Prop := ∀ a w, Agree n E a → Sat σ w P → wpListIn (FW ro) 0 prog ops Q rest a w
end
theorem JI_seq {x y : Code} (h : JI prog σ n ro x (Exit.then (y.wpIn (FW ro) 0 prog Q) Q) E P) : JI prog σ n ro (.seq x y) Q E P := fun a w ha hs => wpIn_seq (h a w ha hs)
theorem JI_ret (h : K σ n Q .ret E P) : JI prog σ n ro .ret Q E P := fun a w ha hs => wpIn_ret (h a w ha hs)
theorem JI_block {id : Nat} {c : Code} (h : JI prog σ n ro c (Exit.inBlock id Q) E P) : JI prog σ n ro (.block id c) Q E P := fun a w ha hs => wpIn_block (h a w ha hs)
theorem JI_cond_false {c : Operand} {x y : Code} (hc : ev E c = some (.bool false)) (ht : JI prog σ n ro y Q E P) : JI prog σ n ro (.cond c x y) Q E P := fun a w ha hs => wpIn_cond_false (ha.ev hc) (ht a w ha hs)
theorem JI_region {id : Nat} {l : List Oper} [hn : NO Q] (hl : l.all ndef = true) (h : L prog σ n l.toArray l Q E P) : JI prog σ n ro (.region id l.toArray false) Q E P :=
  fun a w ha hs => wpIn_region_lit (wpList_in hn.no l a w hl (h a w ha hs))
theorem JI_steps {id : Nat} {l : List Oper} (S0 S : HProp) (B : List Nat) [hn : NO Q] (hl : l.all ndef = true) (hm : prog.follows .mixedOrders = true) (h : Rg prog σ n l.toArray Q S0 S B l.length (List.replicate l.length false).toArray E P) : JI prog σ n ro (.region id l.toArray true) Q E P :=
  fun a w ha hs => wpIn_region_any hm (wpAny_in hn.no hl _ _ _ _ (wpAny_of_B (S0 := fun w => Sat σ w S0) (S := fun w => Sat σ w S) (B := B) _ _ _ _ (by
    have := h a _ ha (hs.drawn (w.drawn + 1))
    simpa using this)))
theorem KI_then {y : Code} (h : JI prog σ n ro y Q E P) : K σ n (Exit.then (y.wpIn (FW ro) 0 prog Q) Q) .normal E P := fun a w ha hs => h a w ha hs
theorem putObj_sat {w : World} {b : Nat} {o o' : Obj} (h : Sat σ w (sep (blk b o) (R))) : Sat σ (w.putObj b o') (sep (blk b o') (R)) := by
  have hlt : b < w.heap.size := (Array.getElem?_eq_some_iff.1 h.blk).1
  exact h.update rfl rfl rfl (World.putObj_heap_same hlt) (fun k hk => World.putObj_heap_other (fun e => hk (by rw [e])))
/-- The round is left by 'return'. -/
theorem KI_ret {l : Nat} {r : Loop} {RR : Ending → World → Prop} (hP : P = (sep (blk l (.loop r)) (R))) (h : ∀ w', Sat σ w' (sep (blk l (.loop { r with state := .done, pending := some .ret })) (R)) → RR (.returned (.bool false)) w') : K σ n (roundPost prog l RR) .ret E P := fun a w ha hs => by
  rw [hP] at hs
  exact ⟨_, _, run_endRound (some .ret) hs.blk, h _ (putObj_sat hs)⟩
/-! ### The call of yield -/
theorem J_regionY {id : Nat} {l : List Oper} (h : LI prog σ n none l.toArray l Q E P) : J prog σ n (.region id l.toArray false) Q E P := fun a w ha hs => wpIn_wide.1 (wpIn_region_lit (h a w ha hs))
theorem LI_nil (h : K σ n Q .normal E P) : LI prog σ n ro ops [] Q E P := fun a w ha hs => h a w ha hs
theorem LI_v {d : Nat} {op : Op} {ty : TypeId} {pos : String} {aft : Array Edge} {v : Value} (h : OpV prog σ n E P ⟨some d, op, ty, pos, aft, none⟩ v) (hn : ndef ⟨some d, op, ty, pos, aft, none⟩ = true) (hd : Nat.blt d n = true) (k : LI prog σ n ro ops rest Q ((d, v) :: E) P) :
    LI prog σ n ro ops (⟨some d, op, ty, pos, aft, none⟩ :: rest) Q E P := fun a w ha hs => by
  unfold wpListIn
  rw [if_pos (show Region.wanted ⟨some d, _, ty, pos, aft, none⟩ (yielded ops a.tmps) = true from rfl)]
  refine ⟨fun _ _ => trivial, ?_⟩
  rw [Oper.semAt_eq _ _ _ (fun c hc => by simp [ndef] at hn hc; simp [hc] at hn), h a w ha hs]
  exact k _ w (ha.put (Nat.le_of_ble_eq_true hd) v) hs
theorem LI_yield {d : Nat} {x : Operand} {args : Array Operand} {tys : Array TypeId} {ty : TypeId} {pos : String} {aft : Array Edge} {l : Nat} {vs : List Value} {r : Loop} (hx : ev E x = some (.func (.yield l) #[] #[])) (hv : evl E args.toList = some vs) (hd : Nat.blt d n = true)
    (hP : P = (sep (blk l (.loop r)) (R))) (hsz : vs.length = r.params.size)
    (h : ∀ RR : Ending → World → Prop, (∀ v P', LI prog σ n ro ops rest Q ((d, v) :: E) P' → ∀ w', Sat σ w' P' → RR (.returned v) w') → ∀ w, Sat σ w P →
      r.assign.wpIn (FW (some l)) 0 prog (Exit.then (fun a₁ w₁ => ∃ w₂, (Instr.beginRound l).run prog w₁ = .ok () w₂ ∧ r.body.wpIn (FW (some l)) 0 prog (roundPost prog l RR) a₁ w₂) (fun _ _ _ => False))
        { tmps := (r.params.zip vs.toArray).foldl (fun t (p, v) => t.setIfInBounds p v) r.tmps, defers := [] } w) :
    LI prog σ n ro ops (⟨some d, .call ⟨.value x, args, tys⟩, ty, pos, aft, none⟩ :: rest) Q E P := fun a w ha hs => by
  unfold wpListIn
  rw [if_pos (show Region.wanted ⟨some d, _, ty, pos, aft, none⟩ (yielded ops a.tmps) = true from rfl)]
  refine ⟨fun _ _ => trivial, ?_⟩
  rw [Oper.semAt_eq _ _ _ (fun c hc => by cases hc)]
  have hs' := hs
  rw [hP] at hs'
  have hrun : (execOp a.eval ⟨some d, .call ⟨.value x, args, tys⟩, ty, pos, aft, none⟩).run prog w = .ok (.round l r.fn ((r.params.zip vs.toArray).foldl (fun t (p, v) => t.setIfInBounds p v) r.tmps) r.assign r.body) w := by
    have hy := run_yield (P := prog) (args := vs.toArray) hs'.blk (by simpa using hsz)
    unfold execOp
    simp only [resolve, Deferred.ofValue, ha.ev hx, ha.evls hv, Sem.run_bind, Sem.run_pure, Result.andThen_ok, invoke]
    simpa using hy
  rw [hrun]
  refine ⟨fun h => (by cases h), ?_⟩
  show RoundIn (FW ro) 0 prog l r.fn _ r.assign r.body w _
  let RR : Ending → World → Prop := fun e w'' => match e with
    | .returned v => wpListIn (FW ro) 0 prog ops Q rest (a.put (some d) v) w''
    | _ => False
  have h1 := h RR (fun v P' hk w' hw' => hk _ w' (ha.put (Nat.le_of_ble_eq_true hd) v) hw') w hs
  have h2 : RoundIn (FW ro) 0 prog l r.fn _ r.assign r.body w RR := roundIn_of_wpIn (F := FW ro) (n := 0) trivial h1
  refine h2.mono fun e w'' he => ?_
  cases e with
  | returned v => exact he
  | panicked c => exact he.elim
  | outgrown => exact he.elim
/-- The assignments of the loop's left sides, the record busy, the body. -/
theorem round_go {l : Nat} {r : Loop} {RR : Ending → World → Prop} {n' : Nat} {E0 E1 : Env} {a : Act} {w : World} {assign body : Code} (hP : P = (sep (blk l (.loop r)) (R))) (hr : r.state = .ready) (ha : Agree n' E0 a) (hs : Sat σ w P)
    (h1 : JI prog σ n' (some l) assign (Exit.then (fun a₁ w₁ => Agree n' E1 a₁ ∧ Sat σ w₁ P) (fun _ _ _ => False)) E0 P) (h2 : JI prog σ n' (some l) body (roundPost prog l RR) E1 (sep (blk l (.loop { r with state := .busy })) (R))) :
    assign.wpIn (FW (some l)) 0 prog (Exit.then (fun a₁ w₁ => ∃ w₂, (Instr.beginRound l).run prog w₁ = .ok () w₂ ∧ body.wpIn (FW (some l)) 0 prog (roundPost prog l RR) a₁ w₂) (fun _ _ _ => False)) a w := by
  refine wpIn_mono (h1 a w ha hs) fun e a' w' he => ?_
  cases e with
  | normal =>
    obtain ⟨h3, h4⟩ := he
    rw [hP] at h4
    exact ⟨_, run_beginRound h4.blk hr, h2 _ _ h3 (putObj_sat h4)⟩
  | _ => exact he
theorem K_id {Q' : Exit → Act → World → Prop} : K σ n (Exit.then (fun a w => Agree n E a ∧ Sat σ w P) Q') .normal E P := fun _ _ ha hs => ⟨ha, hs⟩
instance {X : Act → World → Prop} : NO (Exit.then X (fun _ _ _ => False)) := ⟨fun ⟨_, _, h⟩ => h⟩
/-! ### The statement -/
def mark (D : Nat) : Deferred := { target := .collected D, args := #[] }
theorem J_rangeFunc {g : Operand} {ps : Array Tmp} {assign body : Code} {gf : Nat} {fs cs : List Value} [Fun prog gf] (hg : ev E g = some (.func (.func gf) fs.toArray cs.toArray)) (st : LoopState) (pe : Option Code) (hst : st ≠ .busy) {P1 P2 : HProp} [hT : Take P P1 R]
    (h : ∀ a fn l D, Agree n E a → FSpec prog gf (fs ++ [Value.func (.yield l) #[] #[]] ++ cs).toArray (sep (blk l (.loop { state := .ready, pending := none, fn := fn, tmps := a.tmps, params := ps, assign := assign, body := body, defers := D })) (P1)) (fun _ : Unit => True) (fun _ => .tuple #[])
      (fun _ => (sep (blk l (.loop { state := st, pending := pe, fn := fn, tmps := a.tmps, params := ps, assign := assign, body := body, defers := D })) (P2))))
    (hk : ∀ a D w', Agree n E a → Sat σ w' (sep (blk D (.deferred (some []))) (sep (P2) (R))) → match pe with
      | none => Q .normal { a with defers := [mark D] } w'
      | some c => c.wp prog Q { a with defers := [mark D] } w') : J prog σ n (.rangeFunc g ps assign body) Q E P := fun a w ha hs => by
  refine (wpIn_wide (n := 0)).1 (wpIn_rangeFunc fun fn _ => ?_)
  have hs1 : Sat σ ((w.alloc (.deferred (some []))).alloc (.loop { state := .ready, pending := none, fn := fn, tmps := a.tmps, params := ps, assign := assign, body := body, defers := w.heap.size })) (sep (blk (w.heap.size + 1) (.loop { state := .ready, pending := none, fn := fn, tmps := a.tmps, params := ps, assign := assign, body := body, defers := w.heap.size })) (sep (blk w.heap.size (.deferred (some []))) (P))) := by
    have h1 := (hs.alloc (.deferred (some []))).alloc (.loop { state := .ready, pending := none, fn := fn, tmps := a.tmps, params := ps, assign := assign, body := body, defers := w.heap.size })
    rw [World.size_alloc] at h1
    exact h1
  have he := run_enterLoop_outer (P := prog) (w := w) fn a.tmps ps assign body
  generalize hW1 : (w.alloc (.deferred (some []))).alloc (.loop { state := .ready, pending := none, fn := fn, tmps := a.tmps, params := ps, assign := assign, body := body, defers := w.heap.size }) = W1 at hs1 he
  refine ⟨w.heap.size + 1, [mark w.heap.size], W1, { target := .fn (.func gf) cs.toArray, args := fs.toArray ++ #[.func (.yield (w.heap.size + 1)) #[] #[]] }, W1, gf, (fs ++ [Value.func (.yield (w.heap.size + 1)) #[] #[]] ++ cs).toArray, W1, he, ?_, fun _ _ => trivial, ?_, fun h => (by cases h), ?_⟩
  · simp only [resolve, Deferred.ofValue, ha.ev hg]
    simp [Act.eval]
  · simp only [invoke]
    rw [run_callFunc]
    simp
  · refine callsIn_FW (ro := none) (Calls.mono (h a fn (w.heap.size + 1) w.heap.size ha σ W1 (sep (blk w.heap.size (.deferred (some []))) (R)) ?_) ?_)
    · refine hs1.ent (Ent.of ?_)
      rw [hT.eq]
      simp only [sep_assoc]
      rw [sep_left_comm (blk w.heap.size _) P1 R]
    · rintro e w' ⟨_, _, rfl, hw'⟩
      simp only [sep_assoc] at hw'
      refine ⟨_, _, run_endLoop hw'.blk hst, ?_⟩
      have h3 := (putObj_sat (o' := .loop { state := .exhausted, pending := pe, fn := fn, tmps := a.tmps, params := ps, assign := assign, body := body, defers := w.heap.size }) hw').drop
      rw [sep_left_comm P2] at h3
      have h4 := hk a w.heap.size _ ha h3
      have hd : ({ a with defers := [mark w.heap.size] ++ a.defers } : Act) = { a with defers := [mark w.heap.size] } := by rw [ha.defers]; rfl
      rw [hd]
      cases pe with
      | none => exact h4
      | some c => exact wpIn_wide.2 h4
/-! ### A function that leaves with a mark -/
theorem FSpec.enterM {f : FuncId} {fn : Func} {c : Code} {m : Nat} {args : List Value} {X : Type} {φ : X → Prop} {val : X → Value} {Qo : X → HProp} (hf : prog.funcs[f]? = some fn) (hb : fn.body = some c)
    (hm : fn.ntmps = m) (hn : Nat.ble args.length m = true)
    (h : ∀ σ F, J prog σ m c (bodyPostM Fence.wide 0 prog fn (Back σ φ val Qo F)) (Env.ofArgs 0 args) (sep (P) (F))) : FSpec prog f args.toArray P φ val Qo := by
  subst hm
  intro σ w F hs
  refine (callsIn_wide (n := 0)).1 (callsIn_of_wp_marks hf hb trivial (wpIn_wide.2 ?_))
  refine h σ F _ w ⟨rfl, ?_, ?_⟩ hs
  · have := Nat.le_of_ble_eq_true hn
    simp
    omega
  · intro i v hi
    obtain ⟨_, h2⟩ := Env.get_ofArgs args 0 i v hi
    have h2 : args[i]? = some v := h2
    have hlt : i < args.length := by
      rcases Nat.lt_or_ge i args.length with h | h
      · exact h
      · rw [List.getElem?_eq_none h] at h2; cases h2
    rw [Array.getElem?_append_left (by simpa using hlt)]
    simpa using h2
theorem results_ResL {fn : Func} {rs : List ResultVar} {vs : List Value} {a : Act} {w : World} (hr : fn.results = rs.toArray) (h : ResL prog E P rs vs) (ha : Agree n E a) (hs : Sat σ w P) : (results fn a.tmps).run prog w = .ok (tup vs) w := by
  have h1 := h.run ha hs
  have e : results fn a.tmps = (do let vs ← fn.results.mapM (resF a); pure (if h : vs.size = 1 then vs[0] else .tuple vs)) := by
    unfold results
    congr 2
  rw [e, hr, Sem.run_bind, Array.mapM_eq_mapM_toList, Sem.run_map, h1]
  simp only [Result.andThen_ok, Sem.run_pure]
  rw [← tup_eq]
theorem leavesM {fn : Func} {rs : List ResultVar} {vs : List Value} {X : Type} {φ : X → Prop} {val : X → Value} {Qo : X → HProp} {a : Act} {w : World} {D : Nat} (hr : fn.results = rs.toArray) (h : ResL prog E P rs vs) (ha : Agree n E a) (hs : Sat σ w (sep (blk D (.deferred (some []))) (P)))
    (x : X) (hx : φ x) (hv : tup vs = val x) (hp : Ent P (sep (Qo x) (F))) : LeavesInM Fence.wide 0 prog fn a.tmps (Back σ φ val Qo F) [mark D] .returning w := by
  refine ⟨(fun h => by cases h), .inl ⟨D, _, rfl, run_takeDeferred hs.blk, ?_⟩⟩
  have h2 := (putObj_sat (o' := .deferred none) hs).drop
  exact ⟨_, results_ResL hr h ha h2, x, hx, by rw [hv], h2.ent hp⟩
/-! ### An operation where the frame bears a mark -/
theorem LD_v {ds : List Deferred} {d : Nat} {op : Op} {ty : TypeId} {pos : String} {aft : Array Edge} {v : Value} (h : OpV prog σ n E P ⟨some d, op, ty, pos, aft, none⟩ v) (hd : Nat.blt d n = true)
    (k : ∀ a w, Agree n ((d, v) :: E) a → Sat σ w P → wpList prog ops Q rest { a with defers := ds } w) : ∀ a w, Agree n E a → Sat σ w P → wpList prog ops Q (⟨some d, op, ty, pos, aft, none⟩ :: rest) { a with defers := ds } w := fun a w ha hs => by
  unfold wpList
  rw [if_pos (show Region.wanted ⟨some d, op, ty, pos, aft, none⟩ (yielded ops a.tmps) = true from rfl)]
  refine .inl ?_
  unfold Oper.wp
  have e : (execOp ({ a with defers := ds } : Act).eval ⟨some d, op, ty, pos, aft, none⟩).run prog w = .ok (.value v) w := h a w ha hs
  rw [e]
  exact k (a.put (some d) v) w (ha.put (Nat.le_of_ble_eq_true hd) v) hs
theorem LD_so {ds : List Deferred} {t m b o : Nat} {x y : Operand} {ty : TypeId} {pos : String} {aft : Array Edge} {l l' vs : List Value} {te : TypeId} {v : Value} [Siz prog t m] (hx : ev E x = some (.pointer (some (ad b o)))) (hy : ev E y = some v) [hc : Cel v vs] (hl : vs.length = m) (h1 : ∀ u ∈ vs, u.oneCell' = true) [hk : Look P b l te R] [hs : Spl l o vs l']
    (k : ∀ a w, Agree n E a → Sat σ w (sep (cel b l' te) (R)) → wpList prog ops Q rest { a with defers := ds } w) : ∀ a w, Agree n E a → Sat σ w P → wpList prog ops Q (⟨none, .store t x y, ty, pos, aft, none⟩ :: rest) { a with defers := ds } w := fun a w ha hw => by
  unfold wpList
  rw [if_pos (show Region.wanted ⟨none, .store t x y, ty, pos, aft, none⟩ (yielded ops a.tmps) = true from rfl)]
  refine .inl ?_
  unfold Oper.wp
  rw [hk.eq] at hw
  have hr := run_storeN (prog := prog) (t := t) (m := m) hw hc.c hl h1 hs.le
  have e : (execOp ({ a with defers := ds } : Act).eval ⟨none, .store t x y, ty, pos, aft, none⟩).run prog w = .ok .skip (w.setRow b (l.take o ++ vs ++ l.drop (o + vs.length)).toArray) := by
    have e2 : ({ a with defers := ds } : Act).eval = a.eval := rfl
    simp only [e2, execOp, ha.ev hx, ha.ev hy, Instr.storeAt, Instr.sureAddr, Sem.run_bind, Sem.run_pure, Result.andThen_ok, hr]
  rw [e]
  have h5 := setRow_sat (l' := l') hw
  rw [hs.eq] at h5
  exact k a _ ha (by rw [hs.eq]; exact h5)
class FBlk (P : HProp) (b : Nat) (o : outParam Obj) (R : outParam HProp) : Prop where
  eq : P = (sep (blk b o) (R))
instance (priority := 100) {A P R : HProp} {b : Nat} {o : Obj} [h : FBlk P b o R] : FBlk (sep (A) (P)) b o (sep (A) (R)) := ⟨by rw [h.eq, sep_left_comm]⟩
instance (priority := 150) {A B P R : HProp} {b : Nat} {o : Obj} [h : FBlk (sep (A) (sep (B) (P))) b o R] : FBlk (sep ((sep (A) (B))) (P)) b o R := ⟨by rw [sep_assoc]; exact h.eq⟩
instance (priority := 200) {b : Nat} {o : Obj} {R : HProp} : FBlk (sep (blk b o) (R)) b o R := ⟨rfl⟩
end Go.SLA
namespace Go.Proofs.YtpkcniedaabpoaaGreat
open Go.SLA
set_option maxRecDepth 100000
set_option synthInstance.maxSize 200000
set_option maxHeartbeats 2000000
attribute [local irreducible] J L K QL Rg FSpec OpV OpX Rd Back JU JI LI
theorem aw_cop0 (s : Nat) : Kp Tryz.prog 261 #[Pt s 0, I 0, I 0] (cel s [Ns, I 60000, I 200, I 0, I 0, I 0] 335) (I 0) := by
  refine FSpec.enterM Tryz.func261 rfl Tryz.ntmps261 rfl fun σ F => ?_
  refine sr <| bx rfl fun b4 => bx rfl fun b5 => al rfl fun b6 => nr <| al rfl fun b7 => so rfl rfl ?_
  refine nk <| J_seq <| sr <| ea rfl <| L_v (opv_makeFunc rfl rfl) rfl <| nk <| J_block ?_
  refine J_rangeFunc (P1 := cel s [Ns, I 60000, I 200, I 0, I 0, I 0] 335) (P2 := cel s [Ns, I 60000, I 200, I 0, I 0, I 0] 335) rfl .ready none (by decide) (fun a fn l D ha => ?_) (fun a D w' ha hw => ?_)
  · refine en Tryz.func264 rfl fun σ F => ?_
    refine sr <| eb rfl <| lf 0 rfl rfl <| ll rfl <| ea rfl <| nk ?_
    refine J_block <| J_loopU <| JU_round <| sr <| ea rfl <| nk <| J_seq <| cf rfl <| J_exit ?_
    refine K_then_exit <| K_then_exit <| K_block_here <| z0 rfl Ent.take
  · show Code.wp Tryz.prog (.seq (.region 9 _ false) .ret) _ _ _
    refine wp_seq (wp_region_lit ?_)
    refine LD_v (v := I 0) (opv_load rfl (Rd.look rfl)) rfl (fun a w ha hs => ?_) a w' ha hw
    refine LD_so (vs := [I 0]) rfl rfl rfl (List.all_eq_true.1 rfl) (fun a w ha hs => ?_) a w ha hs
    refine wp_ret ?_
    refine leavesM (a := a) (rs := [.cell 6 26]) (P := (sep (cel b6 [I 0] 26) (sep (cel s [Ns, I 60000, I 200, I 0, I 0, I 0] 335) (F)))) rfl (.one rfl (Rd.look rfl) .nil) ha ?_ () trivial rfl Ent.take
    exact hs.ent Ent.take
theorem aw_cop1 (s x y z : Nat) : Sp Tryz.prog 261 #[Pt s 0, I 1, I 0] ((sep (cel s [Sk x y 1 z, I 60000, I 200, I 1, I 0, I 0] 335) (SLA.Own 425 3 (Sk x y 1 z) 1 [I 0, I 200, .int .u64 1]))) (I 21) ((sep (cel s [Sk x y 1 z, I 60000, I 200, I 1, I 0, I 0] 335) (SLA.Own 425 3 (Sk x y 1 z) 1 [I 0, I 200, .int .u64 3]))) := by
  refine FSpec.enterM Tryz.func261 rfl Tryz.ntmps261 rfl fun σ F => ?_
  refine sr <| bx rfl fun b4 => bx rfl fun b5 => al rfl fun b6 => nr <| al rfl fun b7 => so rfl rfl ?_
  refine nk <| J_seq <| sr <| ea rfl <| L_v (opv_makeFunc rfl rfl) rfl <| nk <| J_block ?_
  refine J_rangeFunc (P1 := (sep (cel s [Sk x y 1 z, I 60000, I 200, I 1, I 0, I 0] 335) (sep (SLA.Own 425 3 (Sk x y 1 z) 1 [I 0, I 200, .int .u64 1]) (sep (cel b4 [I 1] 3) (sep (cel b5 [I 0] 3) (cel b6 [I 0] 26))))))
    (P2 := (sep (cel s [Sk x y 1 z, I 60000, I 200, I 1, I 0, I 0] 335) (sep (SLA.Own 425 3 (Sk x y 1 z) 1 [I 0, I 200, .int .u64 3]) (sep (cel b4 [I 1] 3) (sep (cel b5 [I 0] 3) (cel b6 [I 21] 26)))))) rfl .done (some .ret) (by decide) (fun a fn l D ha => ?_) (fun a D w' ha hw => ?_)
  · refine en Tryz.func264 rfl fun σ F => ?_
    refine sr <| eb rfl <| lf 0 rfl rfl <| ll rfl <| ea rfl <| nk ?_
    refine J_block <| J_loopU <| JU_round <| sr <| ea rfl <| nk <| J_seq <| ct rfl <| sk <| J_seq <| J_block ?_
    refine sr <| eb rfl <| nk <| J_seq <| J_regionY ?_
    refine LI_v (opv_move rfl) rfl rfl <| LI_v (opv_move rfl) rfl rfl <| LI_v (opv_nilCheck rfl) rfl rfl <| LI_v (opv_fa 0 rfl rfl) rfl rfl ?_
    refine LI_v (opv_load rfl (Rd.look rfl)) rfl rfl <| LI_v (opv_move rfl) rfl rfl <| LI_v (opv_ix y rfl rfl rfl rfl) rfl rfl ?_
    refine LI_yield (l := l) rfl rfl rfl FBlk.eq rfl fun RR hRR w hw => ?_
    have ha := ha.sub (E' := [(7, Pt b7 0), (6, Pt b6 0), (5, Pt b5 0), (4, Pt b4 0)]) ⟨rfl, rfl, rfl, rfl, trivial⟩
    refine round_go (n' := 33) (E0 := [(11, Pt x y), (7, Pt b7 0), (6, Pt b6 0), (5, Pt b5 0), (4, Pt b4 0)]) (E1 := [(8, Pt x y), (11, Pt x y), (7, Pt b7 0), (6, Pt b6 0), (5, Pt b5 0), (4, Pt b4 0)]) FBlk.eq rfl ?_ hw ?_ ?_
    · have := ha.put (d := 11) (by decide) (Pt x y)
      simp only [Act.put, ha.defers] at this
      simpa using this
    · refine JI_region rfl <| L_v (opv_assign rfl) rfl <| L_nil ?_
      exact K_id
    · refine JI_block <| JI_block <| JI_seq <| JI_steps ((sep (SLA.Own 425 3 (Sk x y 1 z) 1 [I 0, I 200, .int .u64 1]) (cel b5 [I 0] 3))) emp [] rfl Tryz.mixed ?_
      refine pe 0 rfl rfl <| pe 1 rfl rfl <| pf 2 y rfl rfl <| ps 3 rfl (opv_ldO 0 rfl rfl rfl) ?_
      refine pl 4 rfl rfl rfl <| pe 5 rfl rfl <| pe 6 rfl rfl <| dn <| KI_then <| JI_cond_false rfl <| JI_seq ?_
      refine JI_steps ((sep (SLA.Own 425 3 (Sk x y 1 z) 1 [I 0, I 200, .int .u64 1]) (cel b4 [I 1] 3))) emp [] rfl Tryz.mixed ?_
      refine pe 0 rfl rfl <| pe 1 rfl rfl <| pf 2 (y + 2) rfl rfl <| ps 3 rfl (opv_ldO 2 rfl rfl rfl) ?_
      refine pl 4 rfl rfl rfl <| ps 5 rfl (opv_cv (c := .int .u64 1) rfl rfl) <| ps 6 rfl ((opv_shr rfl rfl (by decide)).as (v' := .int .u64 0) (by kernel_rfl)) <| ps 7 rfl ((opv_and rfl rfl).as (v' := .int .u64 0) (by kernel_rfl)) ?_
      refine pe 8 rfl rfl <| pe 9 rfl rfl <| dn <| KI_then <| JI_cond_false rfl <| JI_seq ?_
      refine JI_region rfl <| eb rfl <| fa (y + 2) rfl ?_
      refine L_x rfl (opx_stO 2 rfl rfl rfl rfl (List.all_eq_true.1 rfl)) (fun _ _ => ?_)
      refine L_nil <| KI_then <| JI_seq <| JI_region rfl <| so rfl rfl <| L_nil <| KI_then <| JI_ret <| K_block_ret <| K_block_ret ?_
      refine KI_ret (l := l) FBlk.eq fun w' hw' => hRR _ _ ?_ w' hw'
      refine LI_v (opv_nt (q := true) rfl rfl) rfl rfl <| LI_nil <| K_then <| ct rfl <| J_ret <| K_block_ret <| K_then_ret <| K_then_ret <| K_block_ret ?_
      exact r0 rfl Ent.take
  · exact wp_ret (leavesM (a := a) (rs := [.cell 6 26]) rfl (.one rfl (Rd.look rfl) .nil) ha hw () trivial rfl Ent.take)
end Go.Proofs.YtpkcniedaabpoaaGreat
namespace Go.Proofs.YtpkcniedaabpoaaGreat
open Go.SLA
set_option maxRecDepth 100000
def wEn : En := ⟨10, 0, 0, 0, 224, 224, 0, 10, 5, 5⟩
def wDat : ByteArray := ⟨#[104, 101, 108, 108, 111]⟩
def m1 : ByteArray := datag wEn wDat
theorem m1_size : m1.size = 13 := datag_size wEn wDat
def wPk : Pk := ⟨0, false, 0, 1, 17, 10, 0, 0, 0, 224, 224, 0, 10, m1⟩
def m2 : ByteArray := pkt wPk
theorem m2_size : m2.size = 33 := by have := pkt_size wPk; rw [show wPk.data.size = 13 from m1_size] at this; exact this
def m3 : ByteArray := m2 ++ zrs (45 - m2.size)
theorem m3_size : m3.size = 45 := by unfold m3; rw [ByteArray.size_append, zrs_size, m2_size]
def e0 : ByteArray := ethS 10 0 0 0 m2
theorem e0_size : e0.size = 64 := by unfold e0; rw [ethS_size, m2_size]
def e1 : ByteArray := ethS 10 0 1 0 m2
theorem e1_size : e1.size = 64 := by unfold e1; rw [ethS_size, m2_size]
theorem wEn_ok : okEn wEn := by unfold okEn wEn; decide
theorem wEn_ports : portsB wEn := by unfold portsB wEn; decide
theorem wPk_ok : okPk wPk := by
  refine ⟨by decide, by decide, by decide, by decide, by decide, by decide, by decide, by decide, by decide, by decide, by decide, by decide, ?_⟩
  show m1.size ≤ _
  rw [m1_size]
  decide
theorem wPk_fields : fieldsB wPk := by unfold fieldsB; exact ⟨by decide, by decide, by decide, by decide⟩
attribute [local irreducible] FSpec m1 datag pkt
theorem aw_udp : Sp Tryz.prog 8 #[.agg [U8 10, U8 0, U8 0, U8 0, U8 224, U8 224, U8 0, U8 10, I 5, I 5].toArray, .string (⟨#[104, 101, 108, 108, 111]⟩)] emp (.tuple #[.string m1, I 0]) emp := by
  unfold m1
  exact Encode_ok wEn wDat wEn_ok wEn_ports (by decide)
theorem aw_udpd : Sp Tryz.prog 16 #[.agg [U8 10, U8 0, U8 0, U8 0].toArray, .agg [U8 224, U8 224, U8 0, U8 10].toArray, .string m1] emp (.tuple #[.agg [U8 10, U8 0, U8 0, U8 0, U8 224, U8 224, U8 0, U8 10, I 5, I 5].toArray, .string (⟨#[104, 101, 108, 108, 111]⟩), I 0]) emp := by
  have h := UDecode_spec wEn m1 wEn_ok (by rw [m1_size]; decide)
  rw [show decU wEn m1 = (wEn, wDat, 0) by unfold m1; exact datag_decU wEn_ports (by decide)] at h
  exact h
theorem aw_ip : Sp Tryz.prog 11 #[.agg [I 0, Ff, I 0, I 1, I 17, U8 10, U8 0, U8 0, U8 0, U8 224, U8 224, U8 0, U8 10, .string m1].toArray] emp (.tuple #[.string m2, I 0]) emp :=
  Ip4Encode_ok wPk wPk_ok wPk_fields (by show m1.size ≤ _; rw [m1_size]; decide)
theorem aw_ipd : Sp Tryz.prog 14 #[.string m3] emp (.tuple #[.agg [I 0, Ff, I 0, I 1, I 17, U8 10, U8 0, U8 0, U8 0, U8 224, U8 224, U8 0, U8 10, .string m1].toArray, I 0]) emp := by
  have h := Ip4Decode_spec m3 (by rw [m3_size]; decide)
  rw [show decP m3 = (wPk, 0) by unfold m3; exact decP_pkt wPk_ok wPk_fields (by show m1.size ≤ _; rw [m1_size]; decide) _] at h
  exact h
theorem aw_eth0 : Sp Tryz.prog 12 #[.agg [I 10, I 0, I 0, I 0, .string m2].toArray] emp (.tuple #[.string e0, I 0]) emp := EthEnc 10 0 0 0 m2 (by decide) (by decide) (by decide) (by rw [m2_size]; decide)
theorem aw_eth1 : Sp Tryz.prog 12 #[.agg [I 10, I 0, I 1, I 0, .string m2].toArray] emp (.tuple #[.string e1, I 0]) emp := EthEnc 10 0 1 0 m2 (by decide) (by decide) (by decide) (by rw [m2_size]; decide)
theorem aw_dec0 : Sp Tryz.prog 13 #[.string e0] emp (.tuple #[.agg [I 10, I 0, I 0, I 0, .string m3].toArray, I 0]) emp := EthDec 10 0 0 0 m2 (by decide) (by decide) (by decide) (by rw [m2_size]; decide)
theorem aw_dec1 : Sp Tryz.prog 13 #[.string e1] emp (.tuple #[.agg [I 10, I 0, I 1, I 0, .string m3].toArray, I 0]) emp := EthDec 10 0 1 0 m2 (by decide) (by decide) (by decide) (by rw [m2_size]; decide)
/-- A slice of one's own that is not empty: where it lies. -/
theorem FSpec.place {f : FuncId} {args : Array Value} {P : HProp} {e m len : Nat} {l : List Value} {v2 : Value} (hl : len ≠ 0) (h : FSpec Tryz.prog f args P (fun _ : Option Addr × Nat => True) (fun r => .tuple #[.slice r.1 len r.2, v2]) (fun r => SLA.Own e m (.slice r.1 len r.2) len l)) :
    FSpec Tryz.prog f args P (fun _ : Nat × Nat × Nat => True) (fun y => .tuple #[.slice (some (ad y.1 y.2.1)) len y.2.2, v2]) (fun y => SLA.Own e m (.slice (some (ad y.1 y.2.1)) len y.2.2) len l) := by
  unfold FSpec at h ⊢
  intro σ w F hs
  refine (h σ w F hs).mono ?_
  rintro en w' ⟨r, _, rfl, hw⟩
  rcases sat_own hw with ⟨_, h0, _⟩ | ⟨b, cap, pre, post, hv, _, _, _, _, _⟩
  · exact absurd h0 hl
  · simp only [Value.slice.injEq, true_and] at hv
    obtain ⟨r1, r2⟩ := r
    obtain ⟨h1, h2⟩ := hv
    dsimp only at h1 h2 hw
    subst h1 h2
    exact ⟨(b, pre.length, r2), trivial, rfl, hw⟩
theorem aw_split : FSpec Tryz.prog 9 #[.agg [I 0, Ff, I 0, I 1, I 17, U8 10, U8 0, U8 0, U8 0, U8 224, U8 224, U8 0, U8 10, .string m1].toArray, I 80] emp (fun _ : Nat × Nat × Nat => True) (fun y => .tuple #[Sk y.1 y.2.1 1 y.2.2, I 0])
    (fun y => SLA.Own 39 14 (Sk y.1 y.2.1 1 y.2.2) 1 [I 0, Ff, I 0, I 1, I 17, U8 10, U8 0, U8 0, U8 0, U8 224, U8 224, U8 0, U8 10, .string m1]) := by
  have h := Split_ok wPk 80 (by decide) rfl rfl (by show m1.size ≤ _; rw [m1_size]; decide)
  have e : splitL wPk (80 - 39) (roomN 80) 0 = [wPk] := by
    rw [splitL_b (by show ¬ 0 + 41 < m1.size; rw [m1_size]; decide)]
    have h1 : prt wPk 0 wPk.data.size = ⟨wPk.id, decide (wPk.data.size < wPk.data.size), ((0 / 8 : Nat) : Int), wPk.ttl, wPk.proto, wPk.s0, wPk.s1, wPk.s2, wPk.s3, wPk.d0, wPk.d1, wPk.d2, wPk.d3, wPk.data.extract 0 wPk.data.size⟩ := rfl
    rw [h1, ByteArray.extract_zero_size]
    simp [wPk]
  rw [e] at h
  exact FSpec.place (len := 1) (by decide) h
end Go.Proofs.YtpkcniedaabpoaaGreat
namespace Go.Proofs.YtpkcniedaabpoaaGreat
open Go.SLA
set_option maxRecDepth 100000
attribute [local irreducible] J L K QL Rg FSpec OpV OpX Rd Back
theorem prtA_in {n k : Int} (h : (prtA n k).2 = 0) : ∃ m q : Nat, n = (m : Int) ∧ k = (q : Int) ∧ m ≤ 4095 ∧ q ≤ 255 ∧ prtA n k = ([10, m / 256 % 256, m % 256, q], 0) := by
  by_cases hc : 0 ≤ n ∧ n ≤ 4095 ∧ 0 ≤ k ∧ k ≤ 255
  · obtain ⟨m, rfl⟩ := nat_of (n := n) (by omega)
    obtain ⟨q, rfl⟩ := nat_of (n := k) (by omega)
    exact ⟨m, q, rfl, rfl, by omega, by omega, by unfold prtA; rw [if_pos hc]; rfl⟩
  · unfold prtA at h; rw [if_neg hc] at h; cases h
theorem grp_in {n : Int} (h : (grp n).2 = 0) : ∃ m : Nat, n = (m : Int) ∧ 1 ≤ m ∧ m ≤ 65535 ∧ grp n = ([224, 224, m / 256 % 256, m % 256], 0) := by
  by_cases hc : 1 ≤ n ∧ n ≤ 65535
  · obtain ⟨m, rfl⟩ := nat_of (n := n) (by omega)
    exact ⟨m, rfl, by omega, by omega, by unfold grp; rw [if_pos hc]; rfl⟩
  · unfold grp at h; rw [if_neg hc] at h; cases h
theorem TW_a (vl h pa u id sm : Int) (d : ByteArray) (hA : FSpec Tryz.prog 7 #[] emp (fun _ : Unit => True) (fun _ => .bool true) (fun _ => emp)) (h1 : (prtA h pa).2 ≠ 0) : FSpec Tryz.prog 3 #[.string d, .agg [.int .i64 vl, .int .i64 h, .int .i64 pa, .int .i64 u, .int .i64 id, .int .i64 sm].toArray] (emp) (fun _ : Unit => True) (fun _ => .bool true) (fun _ => emp) := by
  refine en Tryz.func3 r fun σ F=>J_emp<|sr<|lx r (opx_box (l := [.int .i64 vl, .int .i64 h, .int .i64 pa, .int .i64 u, .int .i64 id, .int .i64 sm]) r r) fun b3 _=>an r<|sr ?_
  first | refine fz r ?_ | refine fy r ?_
  refine ld r r ?_
  first | refine fz r ?_ | refine fy r ?_
  refine ld r r<|cy (Part_any h pa) r fun _=>L_emp<|ea r<|lv (opv_extract (v := ag (prtA h pa).1) r r) r<|lv (opv_extract (v := .int .i64 (prtA h pa).2) r r) r<|al r fun b5=>?_
  refine lx r (opx_storeW (m := 4) r r (enc8_len (prt_adr h pa).1) (enc8_one _) r) fun _ _=>an r<|sr ?_
  first | refine fz r ?_ | refine fy r ?_
  refine ld r r<|cy (Group_any vl) r fun _=>L_emp<|ea r<|lv (opv_extract (v := ag (grp vl).1) r r) r<|lv (opv_extract (v := .int .i64 (grp vl).2) r r) r<|al r fun b7=>?_
  refine lx r (opx_storeW (m := 4) r r (enc8_len (grp_adr vl).1) (enc8_one _) r) fun _ _=>an r<|js<|sa r<|lv ((opv_neq r r).bool_t h1) r<|ea r ?_
  refine L_gskip rfl rfl rfl ?_ (fun _ h => by cases h; rfl)
  refine L_gskip rfl rfl rfl ?_ (fun _ h => by cases h; rfl)
  first | refine ea r ?_ | refine lv (opv_pick r r r) r ?_
  refine ea r ?_
  refine L_gskip rfl rfl rfl ?_ (fun _ h => by cases h; rfl)
  refine L_gskip rfl rfl rfl ?_ (fun _ h => by cases h; rfl)
  refine L_gskip rfl rfl rfl ?_ (fun _ h => by cases h; rfl)
  first | refine ea r ?_ | refine lv (opv_pick r r r) r ?_
  refine nt r<|sr<|cy hA r fun _=>L_emp<|an r<|jr<|kd ?_
  exact K_ret1 rfl rfl () trivial rfl (by rw [emp_sep]; exact Ent.trans Ent.drop (Ent.trans Ent.drop (Ent.drop)))
theorem TW_b (vl h pa u id sm : Int) (d : ByteArray) (hA : FSpec Tryz.prog 7 #[] emp (fun _ : Unit => True) (fun _ => .bool true) (fun _ => emp)) (h1 : (prtA h pa).2 = 0) (h2 : (grp vl).2 ≠ 0) : FSpec Tryz.prog 3 #[.string d, .agg [.int .i64 vl, .int .i64 h, .int .i64 pa, .int .i64 u, .int .i64 id, .int .i64 sm].toArray] (emp) (fun _ : Unit => True) (fun _ => .bool true) (fun _ => emp) := by
  refine en Tryz.func3 r fun σ F=>J_emp<|sr<|lx r (opx_box (l := [.int .i64 vl, .int .i64 h, .int .i64 pa, .int .i64 u, .int .i64 id, .int .i64 sm]) r r) fun b3 _=>an r<|sr ?_
  first | refine fz r ?_ | refine fy r ?_
  refine ld r r ?_
  first | refine fz r ?_ | refine fy r ?_
  refine ld r r<|cy (Part_any h pa) r fun _=>L_emp<|ea r<|lv (opv_extract (v := ag (prtA h pa).1) r r) r<|lv (opv_extract (v := .int .i64 (prtA h pa).2) r r) r<|al r fun b5=>?_
  refine lx r (opx_storeW (m := 4) r r (enc8_len (prt_adr h pa).1) (enc8_one _) r) fun _ _=>an r<|sr ?_
  first | refine fz r ?_ | refine fy r ?_
  refine ld r r<|cy (Group_any vl) r fun _=>L_emp<|ea r<|lv (opv_extract (v := ag (grp vl).1) r r) r<|lv (opv_extract (v := .int .i64 (grp vl).2) r r) r<|al r fun b7=>?_
  refine lx r (opx_storeW (m := 4) r r (enc8_len (grp_adr vl).1) (enc8_one _) r) fun _ _=>an r<|js<|sa r<|lv ((opv_neq r r).bool_f (fun n => n h1)) r<|ea r<|go r<|ea r<|go r<|lv ((opv_neq r r).bool_t h2) r ?_
  first | refine ea r ?_ | refine lv (opv_pick r r r) r ?_
  refine ea r ?_
  refine L_gskip rfl rfl rfl ?_ (fun _ h => by cases h; rfl)
  refine L_gskip rfl rfl rfl ?_ (fun _ h => by cases h; rfl)
  refine L_gskip rfl rfl rfl ?_ (fun _ h => by cases h; rfl)
  first | refine ea r ?_ | refine lv (opv_pick r r r) r ?_
  refine nt r<|sr<|cy hA r fun _=>L_emp<|an r<|jr<|kd ?_
  exact K_ret1 rfl rfl () trivial rfl (by rw [emp_sep]; exact Ent.trans Ent.drop (Ent.trans Ent.drop (Ent.drop)))
theorem TW_c (vl h pa u id sm : Int) (d : ByteArray) (hA : FSpec Tryz.prog 7 #[] emp (fun _ : Unit => True) (fun _ => .bool true) (fun _ => emp)) (h1 : (prtA h pa).2 = 0) (h2 : (grp vl).2 = 0) (h3 : 8192 < d.size) : FSpec Tryz.prog 3 #[.string d, .agg [.int .i64 vl, .int .i64 h, .int .i64 pa, .int .i64 u, .int .i64 id, .int .i64 sm].toArray] (emp) (fun _ : Unit => True) (fun _ => .bool true) (fun _ => emp) := by
  refine en Tryz.func3 r fun σ F=>J_emp<|sr<|lx r (opx_box (l := [.int .i64 vl, .int .i64 h, .int .i64 pa, .int .i64 u, .int .i64 id, .int .i64 sm]) r r) fun b3 _=>an r<|sr ?_
  first | refine fz r ?_ | refine fy r ?_
  refine ld r r ?_
  first | refine fz r ?_ | refine fy r ?_
  refine ld r r<|cy (Part_any h pa) r fun _=>L_emp<|ea r<|lv (opv_extract (v := ag (prtA h pa).1) r r) r<|lv (opv_extract (v := .int .i64 (prtA h pa).2) r r) r<|al r fun b5=>?_
  refine lx r (opx_storeW (m := 4) r r (enc8_len (prt_adr h pa).1) (enc8_one _) r) fun _ _=>an r<|sr ?_
  first | refine fz r ?_ | refine fy r ?_
  refine ld r r<|cy (Group_any vl) r fun _=>L_emp<|ea r<|lv (opv_extract (v := ag (grp vl).1) r r) r<|lv (opv_extract (v := .int .i64 (grp vl).2) r r) r<|al r fun b7=>?_
  refine lx r (opx_storeW (m := 4) r r (enc8_len (grp_adr vl).1) (enc8_one _) r) fun _ _=>an r<|js<|sa r<|lv ((opv_neq r r).bool_f (fun n => n h1)) r<|ea r<|go r<|ea r<|go r<|lv ((opv_neq r r).bool_f (fun n => n h2)) r ?_
  first | refine ea r ?_ | refine lv (opv_pick r r r) r ?_
  refine ea r<|go r<|ea r<|go r ?_
  first | refine ll r ?_ | refine lv (opv_lenS r) r ?_
  refine go r<|lv ((opv_gtr r r).bool_t (by omega)) r ?_
  first | refine ea r ?_ | refine lv (opv_pick r r r) r ?_
  refine nt r<|sr<|cy hA r fun _=>L_emp<|an r<|jr<|kd ?_
  exact K_ret1 rfl rfl () trivial rfl (by rw [emp_sep]; exact Ent.trans Ent.drop (Ent.trans Ent.drop (Ent.drop)))
theorem Part_at {h pa : Int} {s0 s1 s2 s3 : Nat} (h1 : prtA h pa = ([s0, s1, s2, s3], 0)) : FSpec Tryz.prog 5 #[.int .i64 h, .int .i64 pa] emp (fun _ : Unit => True) (fun _ => .tuple #[.agg [.int .u8 (s0 : Nat), .int .u8 (s1 : Nat), .int .u8 (s2 : Nat), .int .u8 (s3 : Nat)].toArray, .int .i64 0]) (fun _ => emp) := by
  have := Part_any h pa
  rw [h1] at this
  exact this
theorem Group_at {vl : Int} {d0 d1 d2 d3 : Nat} (h1 : grp vl = ([d0, d1, d2, d3], 0)) : FSpec Tryz.prog 6 #[.int .i64 vl] emp (fun _ : Unit => True) (fun _ => .tuple #[.agg [.int .u8 (d0 : Nat), .int .u8 (d1 : Nat), .int .u8 (d2 : Nat), .int .u8 (d3 : Nat)].toArray, .int .i64 0]) (fun _ => emp) := by
  have := Group_any vl
  rw [h1] at this
  exact this
/-- Who sends to whom. -/
def wEnd (s0 s1 s2 s3 d0 d1 d2 d3 : Nat) (u : Int) : En := ⟨s0, s1, s2, s3, d0, d1, d2, d3, u, u⟩
theorem wEnd_ok {s0 s1 s2 s3 d0 d1 d2 d3 : Nat} {u : Int} (hs : (s0 < 256 ∧ s1 < 256 ∧ s2 < 256 ∧ s3 < 256) ∧ (d0 < 256 ∧ d1 < 256 ∧ d2 < 256 ∧ d3 < 256)) (hu : (Lit.int .i64 u).wf = true) : okEn (wEnd s0 s1 s2 s3 d0 d1 d2 d3 u) := by
  obtain ⟨⟨a0, a1, a2, a3⟩, b0, b1, b2, b3⟩ := hs
  exact ⟨wfk8 a0, wfk8 a1, wfk8 a2, wfk8 a3, wfk8 b0, wfk8 b1, wfk8 b2, wfk8 b3, hu, hu⟩
/-- The packet that is parted. -/
def wPck (s0 s1 s2 s3 d0 d1 d2 d3 : Nat) (id : Int) (s : ByteArray) : Pk := ⟨id, false, 0, 1, 17, s0, s1, s2, s3, d0, d1, d2, d3, s⟩
set_option maxHeartbeats 800000 in
theorem TW_d (vl h pa u id sm : Int) (d : ByteArray) (hA : FSpec Tryz.prog 7 #[] emp (fun _ : Unit => True) (fun _ => .bool true) (fun _ => emp)) (s0 s1 s2 s3 d0 d1 d2 d3 : Nat) (h1 : prtA h pa = ([s0, s1, s2, s3], 0)) (h2 : grp vl = ([d0, d1, d2, d3], 0)) (h3 : d.size ≤ 8192) (hs : (s0 < 256 ∧ s1 < 256 ∧ s2 < 256 ∧ s3 < 256) ∧ (d0 < 256 ∧ d1 < 256 ∧ d2 < 256 ∧ d3 < 256)) (hu : (Lit.int .i64 u).wf = true) (h4 : (encU (wEnd s0 s1 s2 s3 d0 d1 d2 d3 u) d).2 ≠ 0) : FSpec Tryz.prog 3 #[.string d, .agg [.int .i64 vl, .int .i64 h, .int .i64 pa, .int .i64 u, .int .i64 id, .int .i64 sm].toArray] (emp) (fun _ : Unit => True) (fun _ => .bool true) (fun _ => emp) := by
  refine en Tryz.func3 r fun σ F=>J_emp<|sr<|lx r (opx_box (l := [.int .i64 vl, .int .i64 h, .int .i64 pa, .int .i64 u, .int .i64 id, .int .i64 sm]) r r) fun b3 _=>an r<|sr ?_
  first | refine fz r ?_ | refine fy r ?_
  refine ld r r ?_
  first | refine fz r ?_ | refine fy r ?_
  refine ld r r<|cy (Part_at h1) r fun _=>L_emp<|ea r<|lv (opv_extract (v := .agg [.int .u8 (s0 : Nat), .int .u8 (s1 : Nat), .int .u8 (s2 : Nat), .int .u8 (s3 : Nat)].toArray) r r) r<|lv (opv_extract (v := .int .i64 0) r r) r<|al r fun b5=>?_
  refine lx r (opx_store r r r (by simp [Value.oneCell'])) fun _ _=>an r<|sr ?_
  first | refine fz r ?_ | refine fy r ?_
  refine ld r r<|cy (Group_at h2) r fun _=>L_emp<|ea r<|lv (opv_extract (v := .agg [.int .u8 (d0 : Nat), .int .u8 (d1 : Nat), .int .u8 (d2 : Nat), .int .u8 (d3 : Nat)].toArray) r r) r<|lv (opv_extract (v := .int .i64 0) r r) r<|al r fun b7=>?_
  refine lx r (opx_store r r r (by simp [Value.oneCell'])) fun _ _=>an r<|js<|sa r<|lv ((opv_neq r r).bool_f (by decide)) r<|ea r<|go r<|ea r<|go r<|lv ((opv_neq r r).bool_f (by decide)) r ?_
  first | refine ea r ?_ | refine lv (opv_pick r r r) r ?_
  refine ea r<|go r<|ea r<|go r ?_
  first | refine ll r ?_ | refine lv (opv_lenS r) r ?_
  refine go r<|lv ((opv_gtr r r).bool_f (by omega)) r ?_
  first | refine ea r ?_ | refine lv (opv_pick r r r) r ?_
  refine nf r<|sk<|sr<|ls r<|ls r ?_
  first | refine fz r ?_ | refine fy r ?_
  refine ld r r ?_
  first | refine fz r ?_ | refine fy r ?_
  refine ld r r<|lv (opv_build r) r<|al r fun b9=>?_
  refine lx r (opx_store r r r (by simp [Value.oneCell'])) fun _ _=>nr<|ls r<|ea r<|cy (Encode_any (wEnd s0 s1 s2 s3 d0 d1 d2 d3 u) d (wEnd_ok hs hu)) r fun _=>L_emp<|ea r<|lv (opv_extract (v := .string (encU (wEnd s0 s1 s2 s3 d0 d1 d2 d3 u) d).1) r r) r<|lv (opv_extract (v := .int .i64 (encU (wEnd s0 s1 s2 s3 d0 d1 d2 d3 u) d).2) r r) r<|eb r<|nr ?_
  first | refine fz r ?_ | refine fy r ?_
  refine ld r r<|ls r<|ls r<|ea r<|lv (opv_build r) r ?_
  first | refine fz r ?_ | refine fy r ?_
  refine ld r r<|cy (Split_all (wPck s0 s1 s2 s3 d0 d1 d2 d3 id (encU (wEnd s0 s1 s2 s3 d0 d1 d2 d3 u) d).1) sm) r fun r1=>ea r<|lv (opv_extract (v := .slice r1.1 (partsC (wPck s0 s1 s2 s3 d0 d1 d2 d3 id (encU (wEnd s0 s1 s2 s3 d0 d1 d2 d3 u) d).1) sm).length r1.2) r r) r<|lv (opv_extract (v := .int .i64 (codeS (wPck s0 s1 s2 s3 d0 d1 d2 d3 id (encU (wEnd s0 s1 s2 s3 d0 d1 d2 d3 u) d).1) sm)) r r) r<|eb r<|nj<|sa r<|lv ((opv_neq r r).bool_t h4) r<|ea r ?_
  refine L_gskip rfl rfl rfl ?_ (fun _ h => by cases h; rfl)
  refine L_gskip rfl rfl rfl ?_ (fun _ h => by cases h; rfl)
  first | refine ea r ?_ | refine lv (opv_pick r r r) r ?_
  refine ea r ?_
  refine L_gskip rfl rfl rfl ?_ (fun _ h => by cases h; rfl)
  refine L_gskip rfl rfl rfl ?_ (fun _ h => by cases h; rfl)
  refine L_gskip rfl rfl rfl ?_ (fun _ h => by cases h; rfl)
  first | refine ea r ?_ | refine lv (opv_pick r r r) r ?_
  refine ea r ?_
  refine L_gskip rfl rfl rfl ?_ (fun _ h => by cases h; rfl)
  refine L_gskip rfl rfl rfl ?_ (fun _ h => by cases h; rfl)
  refine L_gskip rfl rfl rfl ?_ (fun _ h => by cases h; rfl)
  first | refine ea r ?_ | refine lv (opv_pick r r r) r ?_
  refine nt r<|sr<|cy hA r fun _=>L_emp<|an r<|jr<|kd ?_
  exact K_ret1 rfl rfl () trivial rfl (by rw [emp_sep]; exact Ent.trans Ent.drop (Ent.trans Ent.drop (Ent.trans Ent.drop (Ent.trans Ent.drop (Ent.drop)))))
set_option maxHeartbeats 800000 in
theorem TW_e (vl h pa u id sm : Int) (d : ByteArray) (hA : FSpec Tryz.prog 7 #[] emp (fun _ : Unit => True) (fun _ => .bool true) (fun _ => emp)) (s0 s1 s2 s3 d0 d1 d2 d3 : Nat) (h1 : prtA h pa = ([s0, s1, s2, s3], 0)) (h2 : grp vl = ([d0, d1, d2, d3], 0)) (h3 : d.size ≤ 8192) (hs : (s0 < 256 ∧ s1 < 256 ∧ s2 < 256 ∧ s3 < 256) ∧ (d0 < 256 ∧ d1 < 256 ∧ d2 < 256 ∧ d3 < 256)) (hu : (Lit.int .i64 u).wf = true) (h4 : (encU (wEnd s0 s1 s2 s3 d0 d1 d2 d3 u) d).2 = 0) (h5 : codeS (wPck s0 s1 s2 s3 d0 d1 d2 d3 id (encU (wEnd s0 s1 s2 s3 d0 d1 d2 d3 u) d).1) sm ≠ 0) : FSpec Tryz.prog 3 #[.string d, .agg [.int .i64 vl, .int .i64 h, .int .i64 pa, .int .i64 u, .int .i64 id, .int .i64 sm].toArray] (emp) (fun _ : Unit => True) (fun _ => .bool true) (fun _ => emp) := by
  refine en Tryz.func3 r fun σ F=>J_emp<|sr<|lx r (opx_box (l := [.int .i64 vl, .int .i64 h, .int .i64 pa, .int .i64 u, .int .i64 id, .int .i64 sm]) r r) fun b3 _=>an r<|sr ?_
  first | refine fz r ?_ | refine fy r ?_
  refine ld r r ?_
  first | refine fz r ?_ | refine fy r ?_
  refine ld r r<|cy (Part_at h1) r fun _=>L_emp<|ea r<|lv (opv_extract (v := .agg [.int .u8 (s0 : Nat), .int .u8 (s1 : Nat), .int .u8 (s2 : Nat), .int .u8 (s3 : Nat)].toArray) r r) r<|lv (opv_extract (v := .int .i64 0) r r) r<|al r fun b5=>?_
  refine lx r (opx_store r r r (by simp [Value.oneCell'])) fun _ _=>an r<|sr ?_
  first | refine fz r ?_ | refine fy r ?_
  refine ld r r<|cy (Group_at h2) r fun _=>L_emp<|ea r<|lv (opv_extract (v := .agg [.int .u8 (d0 : Nat), .int .u8 (d1 : Nat), .int .u8 (d2 : Nat), .int .u8 (d3 : Nat)].toArray) r r) r<|lv (opv_extract (v := .int .i64 0) r r) r<|al r fun b7=>?_
  refine lx r (opx_store r r r (by simp [Value.oneCell'])) fun _ _=>an r<|js<|sa r<|lv ((opv_neq r r).bool_f (by decide)) r<|ea r<|go r<|ea r<|go r<|lv ((opv_neq r r).bool_f (by decide)) r ?_
  first | refine ea r ?_ | refine lv (opv_pick r r r) r ?_
  refine ea r<|go r<|ea r<|go r ?_
  first | refine ll r ?_ | refine lv (opv_lenS r) r ?_
  refine go r<|lv ((opv_gtr r r).bool_f (by omega)) r ?_
  first | refine ea r ?_ | refine lv (opv_pick r r r) r ?_
  refine nf r<|sk<|sr<|ls r<|ls r ?_
  first | refine fz r ?_ | refine fy r ?_
  refine ld r r ?_
  first | refine fz r ?_ | refine fy r ?_
  refine ld r r<|lv (opv_build r) r<|al r fun b9=>?_
  refine lx r (opx_store r r r (by simp [Value.oneCell'])) fun _ _=>nr<|ls r<|ea r<|cy (Encode_any (wEnd s0 s1 s2 s3 d0 d1 d2 d3 u) d (wEnd_ok hs hu)) r fun _=>L_emp<|ea r<|lv (opv_extract (v := .string (encU (wEnd s0 s1 s2 s3 d0 d1 d2 d3 u) d).1) r r) r<|lv (opv_extract (v := .int .i64 (encU (wEnd s0 s1 s2 s3 d0 d1 d2 d3 u) d).2) r r) r<|eb r<|nr ?_
  first | refine fz r ?_ | refine fy r ?_
  refine ld r r<|ls r<|ls r<|ea r<|lv (opv_build r) r ?_
  first | refine fz r ?_ | refine fy r ?_
  refine ld r r<|cy (Split_all (wPck s0 s1 s2 s3 d0 d1 d2 d3 id (encU (wEnd s0 s1 s2 s3 d0 d1 d2 d3 u) d).1) sm) r fun r1=>ea r<|lv (opv_extract (v := .slice r1.1 (partsC (wPck s0 s1 s2 s3 d0 d1 d2 d3 id (encU (wEnd s0 s1 s2 s3 d0 d1 d2 d3 u) d).1) sm).length r1.2) r r) r<|lv (opv_extract (v := .int .i64 (codeS (wPck s0 s1 s2 s3 d0 d1 d2 d3 id (encU (wEnd s0 s1 s2 s3 d0 d1 d2 d3 u) d).1) sm)) r r) r<|eb r<|nj<|sa r<|lv ((opv_neq r r).bool_f (fun n => n h4)) r<|ea r<|go r<|ea r<|go r<|lv ((opv_neq r r).bool_t h5) r ?_
  first | refine ea r ?_ | refine lv (opv_pick r r r) r ?_
  refine ea r ?_
  refine L_gskip rfl rfl rfl ?_ (fun _ h => by cases h; rfl)
  refine L_gskip rfl rfl rfl ?_ (fun _ h => by cases h; rfl)
  refine L_gskip rfl rfl rfl ?_ (fun _ h => by cases h; rfl)
  first | refine ea r ?_ | refine lv (opv_pick r r r) r ?_
  refine ea r ?_
  refine L_gskip rfl rfl rfl ?_ (fun _ h => by cases h; rfl)
  refine L_gskip rfl rfl rfl ?_ (fun _ h => by cases h; rfl)
  refine L_gskip rfl rfl rfl ?_ (fun _ h => by cases h; rfl)
  first | refine ea r ?_ | refine lv (opv_pick r r r) r ?_
  refine nt r<|sr<|cy hA r fun _=>L_emp<|an r<|jr<|kd ?_
  exact K_ret1 rfl rfl () trivial rfl (by rw [emp_sep]; exact Ent.trans Ent.drop (Ent.trans Ent.drop (Ent.trans Ent.drop (Ent.trans Ent.drop (Ent.drop)))))
set_option maxHeartbeats 800000 in
theorem TW_f (vl h pa u id sm : Int) (d : ByteArray) (hA : FSpec Tryz.prog 7 #[] emp (fun _ : Unit => True) (fun _ => .bool true) (fun _ => emp)) (s0 s1 s2 s3 d0 d1 d2 d3 : Nat) (h1 : prtA h pa = ([s0, s1, s2, s3], 0)) (h2 : grp vl = ([d0, d1, d2, d3], 0)) (h3 : d.size ≤ 8192) (hs : (s0 < 256 ∧ s1 < 256 ∧ s2 < 256 ∧ s3 < 256) ∧ (d0 < 256 ∧ d1 < 256 ∧ d2 < 256 ∧ d3 < 256)) (hu : (Lit.int .i64 u).wf = true) (h4 : (encU (wEnd s0 s1 s2 s3 d0 d1 d2 d3 u) d).2 = 0) (h5 : codeS (wPck s0 s1 s2 s3 d0 d1 d2 d3 id (encU (wEnd s0 s1 s2 s3 d0 d1 d2 d3 u) d).1) sm = 0) (h6 : id < 0) : FSpec Tryz.prog 3 #[.string d, .agg [.int .i64 vl, .int .i64 h, .int .i64 pa, .int .i64 u, .int .i64 id, .int .i64 sm].toArray] (emp) (fun _ : Unit => True) (fun _ => .bool true) (fun _ => emp) := by
  refine en Tryz.func3 r fun σ F=>J_emp<|sr<|lx r (opx_box (l := [.int .i64 vl, .int .i64 h, .int .i64 pa, .int .i64 u, .int .i64 id, .int .i64 sm]) r r) fun b3 _=>an r<|sr ?_
  first | refine fz r ?_ | refine fy r ?_
  refine ld r r ?_
  first | refine fz r ?_ | refine fy r ?_
  refine ld r r<|cy (Part_at h1) r fun _=>L_emp<|ea r<|lv (opv_extract (v := .agg [.int .u8 (s0 : Nat), .int .u8 (s1 : Nat), .int .u8 (s2 : Nat), .int .u8 (s3 : Nat)].toArray) r r) r<|lv (opv_extract (v := .int .i64 0) r r) r<|al r fun b5=>?_
  refine lx r (opx_store r r r (by simp [Value.oneCell'])) fun _ _=>an r<|sr ?_
  first | refine fz r ?_ | refine fy r ?_
  refine ld r r<|cy (Group_at h2) r fun _=>L_emp<|ea r<|lv (opv_extract (v := .agg [.int .u8 (d0 : Nat), .int .u8 (d1 : Nat), .int .u8 (d2 : Nat), .int .u8 (d3 : Nat)].toArray) r r) r<|lv (opv_extract (v := .int .i64 0) r r) r<|al r fun b7=>?_
  refine lx r (opx_store r r r (by simp [Value.oneCell'])) fun _ _=>an r<|js<|sa r<|lv ((opv_neq r r).bool_f (by decide)) r<|ea r<|go r<|ea r<|go r<|lv ((opv_neq r r).bool_f (by decide)) r ?_
  first | refine ea r ?_ | refine lv (opv_pick r r r) r ?_
  refine ea r<|go r<|ea r<|go r ?_
  first | refine ll r ?_ | refine lv (opv_lenS r) r ?_
  refine go r<|lv ((opv_gtr r r).bool_f (by omega)) r ?_
  first | refine ea r ?_ | refine lv (opv_pick r r r) r ?_
  refine nf r<|sk<|sr<|ls r<|ls r ?_
  first | refine fz r ?_ | refine fy r ?_
  refine ld r r ?_
  first | refine fz r ?_ | refine fy r ?_
  refine ld r r<|lv (opv_build r) r<|al r fun b9=>?_
  refine lx r (opx_store r r r (by simp [Value.oneCell'])) fun _ _=>nr<|ls r<|ea r<|cy (Encode_any (wEnd s0 s1 s2 s3 d0 d1 d2 d3 u) d (wEnd_ok hs hu)) r fun _=>L_emp<|ea r<|lv (opv_extract (v := .string (encU (wEnd s0 s1 s2 s3 d0 d1 d2 d3 u) d).1) r r) r<|lv (opv_extract (v := .int .i64 (encU (wEnd s0 s1 s2 s3 d0 d1 d2 d3 u) d).2) r r) r<|eb r<|nr ?_
  first | refine fz r ?_ | refine fy r ?_
  refine ld r r<|ls r<|ls r<|ea r<|lv (opv_build r) r ?_
  first | refine fz r ?_ | refine fy r ?_
  refine ld r r<|cy (Split_all (wPck s0 s1 s2 s3 d0 d1 d2 d3 id (encU (wEnd s0 s1 s2 s3 d0 d1 d2 d3 u) d).1) sm) r fun r1=>ea r<|lv (opv_extract (v := .slice r1.1 (partsC (wPck s0 s1 s2 s3 d0 d1 d2 d3 id (encU (wEnd s0 s1 s2 s3 d0 d1 d2 d3 u) d).1) sm).length r1.2) r r) r<|lv (opv_extract (v := .int .i64 (codeS (wPck s0 s1 s2 s3 d0 d1 d2 d3 id (encU (wEnd s0 s1 s2 s3 d0 d1 d2 d3 u) d).1) sm)) r r) r<|eb r<|nj<|sa r<|lv ((opv_neq r r).bool_f (fun n => n h4)) r<|ea r<|go r<|ea r<|go r<|lv ((opv_neq r r).bool_f (fun n => n h5)) r ?_
  first | refine ea r ?_ | refine lv (opv_pick r r r) r ?_
  refine ea r<|go r ?_
  first | refine fz r ?_ | refine fy r ?_
  refine go r<|ld r r<|go r<|lv ((opv_lss r r).bool_t h6) r ?_
  first | refine ea r ?_ | refine lv (opv_pick r r r) r ?_
  refine ea r ?_
  refine L_gskip rfl rfl rfl ?_ (fun _ h => by cases h; rfl)
  refine L_gskip rfl rfl rfl ?_ (fun _ h => by cases h; rfl)
  refine L_gskip rfl rfl rfl ?_ (fun _ h => by cases h; rfl)
  first | refine ea r ?_ | refine lv (opv_pick r r r) r ?_
  refine nt r<|sr<|cy hA r fun _=>L_emp<|an r<|jr<|kd ?_
  exact K_ret1 rfl rfl () trivial rfl (by rw [emp_sep]; exact Ent.trans Ent.drop (Ent.trans Ent.drop (Ent.trans Ent.drop (Ent.trans Ent.drop (Ent.drop)))))
set_option maxHeartbeats 800000 in
theorem TW_g (vl h pa u id sm : Int) (d : ByteArray) (hA : FSpec Tryz.prog 7 #[] emp (fun _ : Unit => True) (fun _ => .bool true) (fun _ => emp)) (s0 s1 s2 s3 d0 d1 d2 d3 : Nat) (h1 : prtA h pa = ([s0, s1, s2, s3], 0)) (h2 : grp vl = ([d0, d1, d2, d3], 0)) (h3 : d.size ≤ 8192) (hs : (s0 < 256 ∧ s1 < 256 ∧ s2 < 256 ∧ s3 < 256) ∧ (d0 < 256 ∧ d1 < 256 ∧ d2 < 256 ∧ d3 < 256)) (hu : (Lit.int .i64 u).wf = true) (h4 : (encU (wEnd s0 s1 s2 s3 d0 d1 d2 d3 u) d).2 = 0) (h5 : codeS (wPck s0 s1 s2 s3 d0 d1 d2 d3 id (encU (wEnd s0 s1 s2 s3 d0 d1 d2 d3 u) d).1) sm = 0) (h6 : ¬ id < 0) (h7 : 65535 < id) : FSpec Tryz.prog 3 #[.string d, .agg [.int .i64 vl, .int .i64 h, .int .i64 pa, .int .i64 u, .int .i64 id, .int .i64 sm].toArray] (emp) (fun _ : Unit => True) (fun _ => .bool true) (fun _ => emp) := by
  refine en Tryz.func3 r fun σ F=>J_emp<|sr<|lx r (opx_box (l := [.int .i64 vl, .int .i64 h, .int .i64 pa, .int .i64 u, .int .i64 id, .int .i64 sm]) r r) fun b3 _=>an r<|sr ?_
  first | refine fz r ?_ | refine fy r ?_
  refine ld r r ?_
  first | refine fz r ?_ | refine fy r ?_
  refine ld r r<|cy (Part_at h1) r fun _=>L_emp<|ea r<|lv (opv_extract (v := .agg [.int .u8 (s0 : Nat), .int .u8 (s1 : Nat), .int .u8 (s2 : Nat), .int .u8 (s3 : Nat)].toArray) r r) r<|lv (opv_extract (v := .int .i64 0) r r) r<|al r fun b5=>?_
  refine lx r (opx_store r r r (by simp [Value.oneCell'])) fun _ _=>an r<|sr ?_
  first | refine fz r ?_ | refine fy r ?_
  refine ld r r<|cy (Group_at h2) r fun _=>L_emp<|ea r<|lv (opv_extract (v := .agg [.int .u8 (d0 : Nat), .int .u8 (d1 : Nat), .int .u8 (d2 : Nat), .int .u8 (d3 : Nat)].toArray) r r) r<|lv (opv_extract (v := .int .i64 0) r r) r<|al r fun b7=>?_
  refine lx r (opx_store r r r (by simp [Value.oneCell'])) fun _ _=>an r<|js<|sa r<|lv ((opv_neq r r).bool_f (by decide)) r<|ea r<|go r<|ea r<|go r<|lv ((opv_neq r r).bool_f (by decide)) r ?_
  first | refine ea r ?_ | refine lv (opv_pick r r r) r ?_
  refine ea r<|go r<|ea r<|go r ?_
  first | refine ll r ?_ | refine lv (opv_lenS r) r ?_
  refine go r<|lv ((opv_gtr r r).bool_f (by omega)) r ?_
  first | refine ea r ?_ | refine lv (opv_pick r r r) r ?_
  refine nf r<|sk<|sr<|ls r<|ls r ?_
  first | refine fz r ?_ | refine fy r ?_
  refine ld r r ?_
  first | refine fz r ?_ | refine fy r ?_
  refine ld r r<|lv (opv_build r) r<|al r fun b9=>?_
  refine lx r (opx_store r r r (by simp [Value.oneCell'])) fun _ _=>nr<|ls r<|ea r<|cy (Encode_any (wEnd s0 s1 s2 s3 d0 d1 d2 d3 u) d (wEnd_ok hs hu)) r fun _=>L_emp<|ea r<|lv (opv_extract (v := .string (encU (wEnd s0 s1 s2 s3 d0 d1 d2 d3 u) d).1) r r) r<|lv (opv_extract (v := .int .i64 (encU (wEnd s0 s1 s2 s3 d0 d1 d2 d3 u) d).2) r r) r<|eb r<|nr ?_
  first | refine fz r ?_ | refine fy r ?_
  refine ld r r<|ls r<|ls r<|ea r<|lv (opv_build r) r ?_
  first | refine fz r ?_ | refine fy r ?_
  refine ld r r<|cy (Split_all (wPck s0 s1 s2 s3 d0 d1 d2 d3 id (encU (wEnd s0 s1 s2 s3 d0 d1 d2 d3 u) d).1) sm) r fun r1=>ea r<|lv (opv_extract (v := .slice r1.1 (partsC (wPck s0 s1 s2 s3 d0 d1 d2 d3 id (encU (wEnd s0 s1 s2 s3 d0 d1 d2 d3 u) d).1) sm).length r1.2) r r) r<|lv (opv_extract (v := .int .i64 (codeS (wPck s0 s1 s2 s3 d0 d1 d2 d3 id (encU (wEnd s0 s1 s2 s3 d0 d1 d2 d3 u) d).1) sm)) r r) r<|eb r<|nj<|sa r<|lv ((opv_neq r r).bool_f (fun n => n h4)) r<|ea r<|go r<|ea r<|go r<|lv ((opv_neq r r).bool_f (fun n => n h5)) r ?_
  first | refine ea r ?_ | refine lv (opv_pick r r r) r ?_
  refine ea r<|go r ?_
  first | refine fz r ?_ | refine fy r ?_
  refine go r<|ld r r<|go r<|lv ((opv_lss r r).bool_f h6) r ?_
  first | refine ea r ?_ | refine lv (opv_pick r r r) r ?_
  refine ea r<|go r ?_
  first | refine fz r ?_ | refine fy r ?_
  refine go r<|ld r r<|go r<|lv ((opv_gtr r r).bool_t h7) r ?_
  first | refine ea r ?_ | refine lv (opv_pick r r r) r ?_
  refine nt r<|sr<|cy hA r fun _=>L_emp<|an r<|jr<|kd ?_
  exact K_ret1 rfl rfl () trivial rfl (by rw [emp_sep]; exact Ent.trans Ent.drop (Ent.trans Ent.drop (Ent.trans Ent.drop (Ent.trans Ent.drop (Ent.drop)))))
end Go.Proofs.YtpkcniedaabpoaaGreat
namespace Go.Proofs.YtpkcniedaabpoaaGreat
open Go.SLA
set_option maxRecDepth 100000
attribute [local irreducible] J L K QL Rg FSpec OpV OpX Rd Back
theorem okP_part {p : Pk} (hp : okPk p) {m : Nat} (hm : 64 ≤ m ∧ m ≤ 1518) {x : Pk} (h : Part p (m - 39) x) : okPk x := by
  obtain ⟨h1, h2, h3, h4, h5, h6, h7, h8, h9, g0, g1, g2, g3⟩ := h
  obtain ⟨q1, q2, q3, q4, q5, q6, q7, q8, q9, r0, r1, r2, r3⟩ := hp
  refine ⟨by rw [h3]; exact q1, ?_, by rw [h4]; exact q3, by rw [h5]; exact q4, by rw [h6]; exact q5, by rw [h7]; exact q6, by rw [h8]; exact q7, by rw [h9]; exact q8, by rw [g0]; exact q9, by rw [g1]; exact r0, by rw [g2]; exact r1, by rw [g3]; exact r2, by unfold maxLen; omega⟩
  simp [Lit.wf, IntKind.min, IntKind.max, IntKind.signed, IntKind.bits]
  omega
theorem fields_part {p : Pk} (hp : fieldsB p) {m : Nat} {x : Pk} (h : Part p (m - 39) x) : fieldsB x := by
  obtain ⟨h1, h2, h3, h4, h5, _⟩ := h
  obtain ⟨q1, q2, q3, q4⟩ := hp
  unfold fieldsB
  rw [h3, h4, h5]
  exact ⟨q1, h2, q3, q4⟩
theorem sou_at {h : Int} (hh : 0 ≤ h ∧ h ≤ 4095) (k : Nat) : (sou h ((k : Int) % 2)).2 = 0 := by
  unfold sou
  rw [if_pos (by omega)]
theorem lnk_of {n : Int} (h : (grp n).2 = 0) : (lnk n).2 = 0 := by
  obtain ⟨m, rfl, h1, h2, _⟩ := grp_in h
  unfold lnk
  rw [if_pos (by omega)]
/-- What is true of each part. -/
theorem part_at {p : Pk} {sm : Int} (h5 : codeS p sm = 0) (hok : okPk p) (hf : fieldsB p) {i : Nat} {x : Pk} (hx : (partsC p sm)[i]? = some x) : okPk x ∧ fieldsB x ∧ (x.data.size : Int) + 39 ≤ sm ∧ 64 ≤ sm ∧ sm ≤ 1518 := by
  obtain ⟨g1, g2, g3, g4⟩ := codeS_ok h5
  unfold sizeB at g1
  have hr := roomN_ge (m := sm.toNat) (by omega)
  have hm : x ∈ splitL p (sm.toNat - 39) (roomN sm.toNat) 0 := by
    have := List.mem_of_getElem? hx
    unfold partsC at this
    rwa [if_pos h5] at this
  have hpart := splitL_part (p := p) (w := sm.toNat - 39) (by omega) hr.2.1 g4 0 (Nat.zero_le _) x hm
  refine ⟨okP_part hok (m := sm.toNat) (by omega) hpart, fields_part hf (m := sm.toNat) hpart, ?_, by omega, by omega⟩
  have := hpart.1
  omega
theorem New_w : FSpec Tryz.prog 10 #[.int .i64 1, .int .i64 100000] (emp) (fun p : Nat => True) (fun p => .tuple #[.pointer (some (ad p 0)), .int .i64 0]) (fun p => TabP p 1 100000 ⟨[], 0, 0⟩) := New_ok 1 100000 (by decide) (by decide)
set_option maxHeartbeats 4000000 in
theorem TW_ok (vl h pa u id sm : Int) (d : ByteArray) (hA : FSpec Tryz.prog 7 #[] emp (fun _ : Unit => True) (fun _ => .bool true) (fun _ => emp)) (s0 s1 s2 s3 d0 d1 d2 d3 : Nat) (h1 : prtA h pa = ([s0, s1, s2, s3], 0)) (h2 : grp vl = ([d0, d1, d2, d3], 0)) (h3 : d.size ≤ 8192) (hs : (s0 < 256 ∧ s1 < 256 ∧ s2 < 256 ∧ s3 < 256) ∧ (d0 < 256 ∧ d1 < 256 ∧ d2 < 256 ∧ d3 < 256)) (hu : (Lit.int .i64 u).wf = true) (hid : 0 ≤ id ∧ id ≤ 65535) (hpt : portsB (wEnd s0 s1 s2 s3 d0 d1 d2 d3 u)) (p : Pk) (hp : p = (wPck s0 s1 s2 s3 d0 d1 d2 d3 id (datag (wEnd s0 s1 s2 s3 d0 d1 d2 d3 u) d))) (h5 : codeS p sm = 0) (hl : (lnk vl).2 = 0) (hh : 0 ≤ h ∧ h ≤ 4095) : FSpec Tryz.prog 3 #[.string d, .agg [.int .i64 vl, .int .i64 h, .int .i64 pa, .int .i64 u, .int .i64 id, .int .i64 sm].toArray] (emp) (fun _ : Unit => True) (fun _ => .bool true) (fun _ => emp) := by
  have hokE := wEnd_ok (u := u) hs hu
  have hds := datag_size (wEnd s0 s1 s2 s3 d0 d1 d2 d3 u) d
  have hpd : p.data = datag (wEnd s0 s1 s2 s3 d0 d1 d2 d3 u) d := by rw [hp]; rfl
  have hokP : okPk p := by rw [hp]; exact ⟨wfk id (by omega), (show (Lit.int .i64 0).wf = true by decide), (show (Lit.int .i64 1).wf = true by decide), (show (Lit.int .i64 17).wf = true by decide), wfk8 hs.1.1, wfk8 hs.1.2.1, wfk8 hs.1.2.2.1, wfk8 hs.1.2.2.2, wfk8 hs.2.1, wfk8 hs.2.2.1, wfk8 hs.2.2.2.1, wfk8 hs.2.2.2.2, by show (datag (wEnd s0 s1 s2 s3 d0 d1 d2 d3 u) d).size ≤ maxLen; rw [hds]; unfold maxLen; omega⟩
  have hfP : fieldsB p := by rw [hp]; exact ⟨hid, (show (0 : Int) ≤ 0 ∧ (0 : Int) ≤ 8191 by decide), (show (0 : Int) ≤ 1 ∧ (1 : Int) ≤ 255 by decide), (show (0 : Int) ≤ 17 ∧ (17 : Int) ≤ 255 by decide)⟩
  obtain ⟨g1, g2, g3, g4⟩ := codeS_ok h5
  unfold sizeB at g1
  have hr := roomN_ge (m := sm.toNat) (by omega)
  have hln := (partsC_ok (m := sm) hokP.a).2
  have hL0 : (partsC p sm) = splitL p (sm.toNat - 39) (roomN sm.toNat) 0 := by unfold partsC; rw [if_pos h5]
  have hne : 0 < (partsC p sm).length := by rw [hL0, splitL]; split <;> simp
  have h8 : p.data.size ≤ 8200 := by rw [hpd, hds]; omega
  have hSp : FSpec Tryz.prog 9 #[.agg [.int .i64 id, .bool false, .int .i64 0, .int .i64 1, .int .i64 17, .int .u8 (s0 : Nat), .int .u8 (s1 : Nat), .int .u8 (s2 : Nat), .int .u8 (s3 : Nat), .int .u8 (d0 : Nat), .int .u8 (d1 : Nat), .int .u8 (d2 : Nat), .int .u8 (d3 : Nat), .string (datag (wEnd s0 s1 s2 s3 d0 d1 d2 d3 u) d)].toArray, .int .i64 sm] emp (fun _ : Option Addr × Nat => True) (fun r => .tuple #[.slice r.1 (partsC p sm).length r.2, .int .i64 0]) (fun r => SLA.Own 39 14 (.slice r.1 (partsC p sm).length r.2) (partsC p sm).length ((partsC p sm).flatMap encPk)) := by
    have := Split_all p sm
    rw [h5] at this
    rw [hp] at this ⊢
    exact this
  refine en Tryz.func3 r fun σ F=>J_emp<|sr<|lx r (opx_box (l := [.int .i64 vl, .int .i64 h, .int .i64 pa, .int .i64 u, .int .i64 id, .int .i64 sm]) r r) fun b3 _=>an r<|sr ?_
  first | refine fz r ?_ | refine fy r ?_
  refine ld r r ?_
  first | refine fz r ?_ | refine fy r ?_
  refine ld r r<|cy (Part_at h1) r fun _=>L_emp<|ea r<|lv (opv_extract (v := .agg [.int .u8 (s0 : Nat), .int .u8 (s1 : Nat), .int .u8 (s2 : Nat), .int .u8 (s3 : Nat)].toArray) r r) r<|lv (opv_extract (v := .int .i64 0) r r) r<|al r fun b5=>?_
  refine lx r (opx_store r r r (by simp [Value.oneCell'])) fun _ _=>an r<|sr ?_
  first | refine fz r ?_ | refine fy r ?_
  refine ld r r<|cy (Group_at h2) r fun _=>L_emp<|ea r<|lv (opv_extract (v := .agg [.int .u8 (d0 : Nat), .int .u8 (d1 : Nat), .int .u8 (d2 : Nat), .int .u8 (d3 : Nat)].toArray) r r) r<|lv (opv_extract (v := .int .i64 0) r r) r<|al r fun b7=>?_
  refine lx r (opx_store r r r (by simp [Value.oneCell'])) fun _ _=>an r<|js<|sa r<|lv ((opv_neq r r).bool_f (by decide)) r<|ea r<|go r<|ea r<|go r<|lv ((opv_neq r r).bool_f (by decide)) r ?_
  first | refine ea r ?_ | refine lv (opv_pick r r r) r ?_
  refine ea r<|go r<|ea r<|go r ?_
  first | refine ll r ?_ | refine lv (opv_lenS r) r ?_
  refine go r<|lv ((opv_gtr r r).bool_f (by omega)) r ?_
  first | refine ea r ?_ | refine lv (opv_pick r r r) r ?_
  refine nf r<|sk<|sr<|ls r<|ls r ?_
  first | refine fz r ?_ | refine fy r ?_
  refine ld r r ?_
  first | refine fz r ?_ | refine fy r ?_
  refine ld r r<|lv (opv_build r) r<|al r fun b9=>?_
  refine lx r (opx_store r r r (by simp [Value.oneCell'])) fun _ _=>nr<|ls r<|ea r<|cy (Encode_ok (wEnd s0 s1 s2 s3 d0 d1 d2 d3 u) d hokE hpt h3) r fun _=>L_emp<|ea r<|lv (opv_extract (v := .string (datag (wEnd s0 s1 s2 s3 d0 d1 d2 d3 u) d)) r r) r<|lv (opv_extract (v := .int .i64 0) r r) r<|eb r<|nr ?_
  first | refine fz r ?_ | refine fy r ?_
  refine ld r r<|ls r<|ls r<|ea r<|lv (opv_build r) r ?_
  first | refine fz r ?_ | refine fy r ?_
  refine ld r r<|cy hSp r fun r1=>ea r<|lv (opv_extract (v := .slice r1.1 (partsC p sm).length r1.2) r r) r<|lv (opv_extract (v := .int .i64 0) r r) r<|eb r<|nj<|sa r<|lv ((opv_neq r r).bool_f (by decide)) r<|ea r<|go r<|ea r<|go r<|lv ((opv_neq r r).bool_f (by decide)) r ?_
  first | refine ea r ?_ | refine lv (opv_pick r r r) r ?_
  refine ea r<|go r ?_
  first | refine fz r ?_ | refine fy r ?_
  refine go r<|ld r r<|go r<|lv ((opv_lss r r).bool_f (by omega)) r ?_
  first | refine ea r ?_ | refine lv (opv_pick r r r) r ?_
  refine ea r<|go r ?_
  first | refine fz r ?_ | refine fy r ?_
  refine go r<|ld r r<|go r<|lv ((opv_gtr r r).bool_f (by omega)) r ?_
  first | refine ea r ?_ | refine lv (opv_pick r r r) r ?_
  refine nf r<|sk<|sr<|cy New_w r fun tp=>ea r<|lv (opv_extract (v := .pointer (some (ad tp 0))) r r) r<|lv (opv_extract (v := .int .i64 0) r r) r<|eb r<|nj<|sa r<|lv ((opv_neq r r).bool_f (by decide)) r<|ea r<|go r<|ea r<|go r<|lv ((opv_eqlNil r r).as (v' := .bool false) r) r ?_
  first | refine ea r ?_ | refine lv (opv_pick r r r) r ?_
  refine nf r<|sk<|js<|js ?_
  obtain ⟨A1, c1⟩ := r1
  refine J_imp (sep (SLA.Own 39 14 (.slice A1 (partsC p sm).length c1) (partsC p sm).length ((partsC p sm).flatMap encPk)) (sep (TabP tp 1 100000 ⟨[], 0, 0⟩) (sep (cel b3 [.int .i64 vl, .int .i64 h, .int .i64 pa, .int .i64 u, .int .i64 id, .int .i64 sm] 23) (sep (cel b9 [.int .u8 (s0 : Nat), .int .u8 (s1 : Nat), .int .u8 (s2 : Nat), .int .u8 (s3 : Nat), .int .u8 (d0 : Nat), .int .u8 (d1 : Nat), .int .u8 (d2 : Nat), .int .u8 (d3 : Nat), .int .i64 u, .int .i64 u] 32) (F))))) ?_ ?_
  · exact Ent.take
  refine J_know (fun w hs => own_nonnil hs) fun hA1 => ?_
  refine J_imp (sep (TabP tp 1 100000 ⟨[], 0, 0⟩) (sep (SLA.Own 39 14 (.slice A1 (partsC p sm).length c1) (partsC p sm).length ((partsC p sm).flatMap encPk)) (sep (cel b3 [.int .i64 vl, .int .i64 h, .int .i64 pa, .int .i64 u, .int .i64 id, .int .i64 sm] 23) (sep (cel b9 [.int .u8 (s0 : Nat), .int .u8 (s1 : Nat), .int .u8 (s2 : Nat), .int .u8 (s3 : Nat), .int .u8 (d0 : Nat), .int .u8 (d1 : Nat), .int .u8 (d2 : Nat), .int .u8 (d3 : Nat), .int .i64 u, .int .i64 u] 32) (F))))) Ent.take ?_
  refine jg<|an r<|jb ?_
  refine J_loop (X := Nat × Nat × TS) (fun z => [(0, .string d), (3, .pointer (some (ad b3 0))), (9, .pointer (some (ad b9 0))), (12, .slice A1 (partsC p sm).length c1), (14, .pointer (some (ad tp 0))), (16, .int .i64 z.1)]) (fun z => (sep (TabP tp 1 100000 z.2.2) (sep (SLA.Own 39 14 (.slice A1 (partsC p sm).length c1) (partsC p sm).length ((partsC p sm).flatMap encPk)) (sep (cel b3 [.int .i64 vl, .int .i64 h, .int .i64 pa, .int .i64 u, .int .i64 id, .int .i64 sm] 23) (sep (cel b9 [.int .u8 (s0 : Nat), .int .u8 (s1 : Nat), .int .u8 (s2 : Nat), .int .u8 (s3 : Nat), .int .u8 (d0 : Nat), .int .u8 (d1 : Nat), .int .u8 (d2 : Nat), .int .u8 (d3 : Nat), .int .i64 u, .int .i64 u] 32) (F)))))) (fun z => z.1 < (partsC p sm).length ∧ WInv p (partsC p sm) (sm.toNat - 39) (roomN sm.toNat) z.1 z.1 z.2.1 z.2.2) (fun z => (partsC p sm).length - z.1) ((0, 0, ⟨[], 0, 0⟩)) ⟨hne, ⟨Nat.zero_le _, tok0, Int.le_refl _, fun _ => ⟨hL0, rfl, Nat.zero_le _, fun _ => ⟨rfl, rfl⟩, fun h => absurd h (Nat.lt_irrefl _)⟩⟩⟩ ⟨rfl, rfl, rfl, rfl, rfl, rfl, trivial⟩ (Ent.refl _) (fun z hz => ?_)
  obtain ⟨hi, hz⟩ := hz
  have hi2 := hz.step hi g2 g3 h8 ⟨hr.2.2.2, by omega, hr.2.1⟩ (by omega)
  obtain ⟨x, a', hx1, hst, hw1⟩ := hi2
  obtain ⟨hx2, hx3, hx4, hx5, hx6⟩ := part_at h5 hokP hfP hx1
  have hpz := pkt_size x
  have hez := ethS_size vl h ((z.1 : Int) % 2) ((z.1 : Int) % 256) (pkt x)
  obtain ⟨b1, o1, rfl⟩ : ∃ b o, A1 = some (ad b o) := by rcases hA1 with ⟨_, _, h, _⟩ | h; omega; exact h
  rcases (show z.1 + 1 = (partsC p sm).length ∨ z.1 + 1 < (partsC p sm).length by omega) with he | he
  · refine js<|sb r ?_
    first | refine ll r ?_ | refine lv (opv_lenS r) r ?_
    refine lv ((opv_lss r r).bool_t (by omega)) r<|nt r<|sk<|js<|jb<|sb r ?_
    first | refine lv (opv_indexAddr r r (by omega)) r ?_ | refine lv (opv_indexAddrA r r (by omega)) r ?_
    refine lv (opv_loadN (vs := [.int .i64 x.id, .bool x.more, .int .i64 x.off, .int .i64 x.ttl, .int .i64 x.proto, .int .u8 x.s0, .int .u8 x.s1, .int .u8 x.s2, .int .u8 x.s3, .int .u8 x.d0, .int .u8 x.d1, .int .u8 x.d2, .int .u8 x.d3, .string x.data]) r r (fun j u hj => Rd.of_take (S := SLA.Own 39 14 (.slice (some (ad b1 o1)) (partsC p sm).length c1) (partsC p sm).length ((partsC p sm).flatMap encPk)) ((RdS.own (m := 14) (e := 39) (c := c1) encPk_len (.inr ⟨b1, o1, r⟩)).rd b1 o1 r z.1 x j u hx1 hj))) r<|cy (Ip4Encode_ok x hx2 hx3 (by omega)) r fun _=>L_emp<|ea r<|lv (opv_extract (v := .string (pkt x)) r r) r<|lv (opv_extract (v := .int .i64 0) r r) r<|eb r<|nr ?_
    first | refine fz r ?_ | refine fy r ?_
    refine ld r r ?_
    first | refine fz r ?_ | refine fy r ?_
    refine ld r r<|ea r<|lv (opv_remP r r (by omega)) r<|ea r<|lv (opv_remP r r (by omega)) r<|ea r<|lv (opv_build r) r<|cy (EthEnc vl h ((z.1 : Int) % 2) ((z.1 : Int) % 256) (pkt x) hl (sou_at hh z.1) (by omega) (by rw [hpz]; omega)) r fun _=>L_emp<|ea r<|lv (opv_extract (v := .string (ethS vl h ((z.1 : Int) % 2) ((z.1 : Int) % 256) (pkt x))) r r) r<|lv (opv_extract (v := .int .i64 0) r r) r<|eb r<|nr<|ea r<|cy (EthDec vl h ((z.1 : Int) % 2) ((z.1 : Int) % 256) (pkt x) hl (sou_at hh z.1) (by omega) (by rw [hpz]; omega)) r fun _=>?_
    refine L_emp<|ea r<|lv (opv_extract (v := .agg [.int .i64 vl, .int .i64 h, .int .i64 ((z.1 : Int) % 2), .int .i64 ((z.1 : Int) % 256), .string (pkt x ++ zrs (45 - (pkt x).size))].toArray) r r) r<|lv (opv_extract (v := .int .i64 0) r r) r<|al r fun b21=>?_
    refine lx r (opx_store r r r (by simp [Value.oneCell'])) fun _ _=>an r<|sr ?_
    first | refine fz r ?_ | refine fy r ?_
    refine ld r r<|cy (D_back x (zrs (45 - (pkt x).size)) hx2 hx3 (by omega) (by rw [zrs_size]; omega)) r fun _=>L_emp<|ea r<|lv (opv_extract (v := .agg [.int .i64 x.id, .bool x.more, .int .i64 x.off, .int .i64 x.ttl, .int .i64 x.proto, .int .u8 x.s0, .int .u8 x.s1, .int .u8 x.s2, .int .u8 x.s3, .int .u8 x.d0, .int .u8 x.d1, .int .u8 x.d2, .int .u8 x.d3, .string x.data].toArray) r r) r<|lv (opv_extract (v := .int .i64 0) r r) r<|al r fun b23=>?_
    refine lx r (opx_store r r r (by simp [Value.oneCell'])) fun _ _=>an r<|js<|js<|J_quiet Tryz.mixed (by kernel_rfl)<|qa r<|qv ((opv_neq r r).bool_f (by decide)) r<|qa r<|qo r<|qa r<|qo r<|qv ((opv_neq r r).bool_f (by decide)) r ?_
    first | refine qa r ?_ | refine qv (opv_pick r r r) r ?_
    refine qa r<|qo r<|qa r<|qo r<|qv ((opv_neq r r).bool_f (by decide)) r ?_
    first | refine qa r ?_ | refine qv (opv_pick r r r) r ?_
    refine qa r<|qo r<|qa r<|qo r<|qv ((opv_neq r r).bool_f (by decide)) r ?_
    first | refine qa r ?_ | refine qv (opv_pick r r r) r ?_
    refine qa r<|qo r<|qa r<|qo r ?_
    first | refine qv (opv_lenL r) r ?_ | refine qv (opv_lenS r) r ?_
    refine qo r ?_
    first | refine qz r ?_ | refine qy r ?_
    refine qo r<|ql r r<|qo r<|qv ((opv_gtr r r).bool_f (by rw [hez]; omega)) r ?_
    first | refine qa r ?_ | refine qv (opv_pick r r r) r ?_
    refine qa r<|qo r ?_
    first | refine qz r ?_ | refine qy r ?_
    refine qo r<|ql r r<|qo r<|qa r<|qo r<|qv (opv_remP r r (by omega)) r<|qo r<|qv ((opv_neq r r).bool_f (fun n => n r)) r ?_
    first | refine qa r ?_ | refine qv (opv_pick r r r) r ?_
    refine qa r<|qo r<|qv (opv_loadS r) r<|qo r<|qa r<|qo r<|qa r<|qo r ?_
    first | refine qv (opv_indexAddr r r (by omega)) r ?_ | refine qv (opv_indexAddrA r r (by omega)) r ?_
    refine qo r<|qv (opv_loadN (vs := [.int .i64 x.id, .bool x.more, .int .i64 x.off, .int .i64 x.ttl, .int .i64 x.proto, .int .u8 x.s0, .int .u8 x.s1, .int .u8 x.s2, .int .u8 x.s3, .int .u8 x.d0, .int .u8 x.d1, .int .u8 x.d2, .int .u8 x.d3, .string x.data]) r r (fun j u hj => Rd.of_take (S := SLA.Own 39 14 (.slice (some (ad b1 o1)) (partsC p sm).length c1) (partsC p sm).length ((partsC p sm).flatMap encPk)) ((RdS.own (m := 14) (e := 39) (c := c1) encPk_len (.inr ⟨b1, o1, r⟩)).rd b1 o1 r z.1 x j u hx1 hj))) r<|qo r<|qv ((opv_neqF r r (by simp [Shape, CK.sh]) (by simp [Shape, CK.sh])).bool_f (fun n => n r)) r ?_
    first | refine qa r ?_ | refine qv (opv_pick r r r) r ?_
    refine qn<|kt<|cf r<|sk<|js ?_
    have hsp : FSpec Tryz.prog 15 #[.pointer (some (ad tp 0)), .int .i64 z.1, .agg [.int .i64 x.id, .bool x.more, .int .i64 x.off, .int .i64 x.ttl, .int .i64 x.proto, .int .u8 x.s0, .int .u8 x.s1, .int .u8 x.s2, .int .u8 x.s3, .int .u8 x.d0, .int .u8 x.d1, .int .u8 x.d2, .int .u8 x.d3, .string x.data].toArray] (TabP tp 1 100000 z.2.2) (fun _ : Unit => True) (fun _ => .tuple #[.agg [.int .i64 p.id, .bool p.more, .int .i64 p.off, .int .i64 p.ttl, .int .i64 p.proto, .int .u8 p.s0, .int .u8 p.s1, .int .u8 p.s2, .int .u8 p.s3, .int .u8 p.d0, .int .u8 p.d1, .int .u8 p.d2, .int .u8 p.d3, .string p.data].toArray, .bool true, .int .i64 0]) (fun _ => TabP tp 1 100000 (z.2.2.put 1 100000 z.1 x).2) := by
        have := Put_any tp 1 100000 z.2.2 z.1 x z.1 hz.ok (by omega) (by decide) (by omega)
        rw [hst, if_pos he] at this
        exact this
    refine jg<|eb r<|ls r<|cy hsp r fun _=>ea r ?_
    first | refine lv (opv_extract (v := .agg [.int .i64 p.id, .bool p.more, .int .i64 p.off, .int .i64 p.ttl, .int .i64 p.proto, .int .u8 p.s0, .int .u8 p.s1, .int .u8 p.s2, .int .u8 p.s3, .int .u8 p.d0, .int .u8 p.d1, .int .u8 p.d2, .int .u8 p.d3, .string p.data].toArray) r r) r ?_ | refine lv (opv_extract (v := .agg [.int .i64 0, .bool false, .int .i64 0, .int .i64 0, .int .i64 0, .int .u8 0, .int .u8 0, .int .u8 0, .int .u8 0, .int .u8 0, .int .u8 0, .int .u8 0, .int .u8 0, .string ⟨#[]⟩].toArray) r r) r ?_
    first | refine lv (opv_extract (v := .bool true) r r) r ?_ | refine lv (opv_extract (v := .bool false) r r) r ?_
    refine lv (opv_extract (v := .int .i64 0) r r) r<|al r fun b25=>?_
    refine lx r (opx_store r r r (by simp [Value.oneCell'])) fun _ _=>eb r<|nj<|sa r<|lv ((opv_neq r r).bool_f (by decide)) r<|ea r<|go r<|ea r<|go r<|ea r<|go r<|lv ((opv_add64 r r (by omega))) r<|go r<|ea r<|go r ?_
    first | refine ll r ?_ | refine lv (opv_lenS r) r ?_
    refine go r ?_
    first | refine lv ((opv_eql r r).bool_t (by omega)) r ?_ | refine lv ((opv_eql r r).bool_f (by omega)) r ?_
    refine go r<|lv ((opv_neqB r r).as (v' := .bool false) r) r ?_
    first | refine ea r ?_ | refine lv (opv_pick r r r) r ?_
    refine nf r<|sk<|san r<|ct r<|js ?_
    have hUd : FSpec Tryz.prog 16 #[.agg [.int .u8 p.s0, .int .u8 p.s1, .int .u8 p.s2, .int .u8 p.s3].toArray, .agg [.int .u8 p.d0, .int .u8 p.d1, .int .u8 p.d2, .int .u8 p.d3].toArray, .string p.data] emp (fun _ : Unit => True) (fun _ => .tuple #[.agg [.int .u8 (s0 : Nat), .int .u8 (s1 : Nat), .int .u8 (s2 : Nat), .int .u8 (s3 : Nat), .int .u8 (d0 : Nat), .int .u8 (d1 : Nat), .int .u8 (d2 : Nat), .int .u8 (d3 : Nat), .int .i64 u, .int .i64 u].toArray, .string d, .int .i64 0]) (fun _ => emp) := by
        have := UD_back (wEnd s0 s1 s2 s3 d0 d1 d2 d3 u) d hokE hpt h3
        rw [hp]
        exact this
    refine jg ?_
    first | refine fz r ?_ | refine fy r ?_
    refine ls r ?_
    first | refine fz r ?_ | refine fy r ?_
    refine ls r ?_
    first | refine fz r ?_ | refine fy r ?_
    refine ld r r<|cy hUd r fun _=>L_emp<|ea r<|lv (opv_extract (v := .agg [.int .u8 (s0 : Nat), .int .u8 (s1 : Nat), .int .u8 (s2 : Nat), .int .u8 (s3 : Nat), .int .u8 (d0 : Nat), .int .u8 (d1 : Nat), .int .u8 (d2 : Nat), .int .u8 (d3 : Nat), .int .i64 u, .int .i64 u].toArray) r r) r<|lv (opv_extract (v := .string d) r r) r<|lv (opv_extract (v := .int .i64 0) r r) r<|al r fun b28=>?_
    refine lx r (opx_store r r r (by simp [Value.oneCell'])) fun _ _=>eb r<|nr<|ea r<|lv ((opv_eql r r).bool_t r) r<|ea r<|go r<|ls r<|go r<|ls r<|go r<|lv ((opv_eqlF r r (by simp [Shape, CK.sh]) (by simp [Shape, CK.sh])).bool_t r) r ?_
    first | refine ea r ?_ | refine lv (opv_pick r r r) r ?_
    refine ea r<|go r<|ea r<|go r<|ea r<|go r<|lv ((opv_eqlS r r).bool_t r) r ?_
    first | refine ea r ?_ | refine lv (opv_pick r r r) r ?_
    refine ea r<|go r<|cy hA r fun _=>L_emp ?_
    first | refine ea r ?_ | refine lv (opv_pick r r r) r ?_
    refine an r<|jr<|kq<|kd<|kd<|kq<|kd ?_
    exact K_ret1 rfl rfl () trivial (rfl) (by rw [emp_sep]; repeat (first | exact Ent.refl F | refine Ent.trans Ent.drop ?_))
  · refine js<|sb r ?_
    first | refine ll r ?_ | refine lv (opv_lenS r) r ?_
    refine lv ((opv_lss r r).bool_t (by omega)) r<|nt r<|sk<|js<|jb<|sb r ?_
    first | refine lv (opv_indexAddr r r (by omega)) r ?_ | refine lv (opv_indexAddrA r r (by omega)) r ?_
    refine lv (opv_loadN (vs := [.int .i64 x.id, .bool x.more, .int .i64 x.off, .int .i64 x.ttl, .int .i64 x.proto, .int .u8 x.s0, .int .u8 x.s1, .int .u8 x.s2, .int .u8 x.s3, .int .u8 x.d0, .int .u8 x.d1, .int .u8 x.d2, .int .u8 x.d3, .string x.data]) r r (fun j u hj => Rd.of_take (S := SLA.Own 39 14 (.slice (some (ad b1 o1)) (partsC p sm).length c1) (partsC p sm).length ((partsC p sm).flatMap encPk)) ((RdS.own (m := 14) (e := 39) (c := c1) encPk_len (.inr ⟨b1, o1, r⟩)).rd b1 o1 r z.1 x j u hx1 hj))) r<|cy (Ip4Encode_ok x hx2 hx3 (by omega)) r fun _=>L_emp<|ea r<|lv (opv_extract (v := .string (pkt x)) r r) r<|lv (opv_extract (v := .int .i64 0) r r) r<|eb r<|nr ?_
    first | refine fz r ?_ | refine fy r ?_
    refine ld r r ?_
    first | refine fz r ?_ | refine fy r ?_
    refine ld r r<|ea r<|lv (opv_remP r r (by omega)) r<|ea r<|lv (opv_remP r r (by omega)) r<|ea r<|lv (opv_build r) r<|cy (EthEnc vl h ((z.1 : Int) % 2) ((z.1 : Int) % 256) (pkt x) hl (sou_at hh z.1) (by omega) (by rw [hpz]; omega)) r fun _=>L_emp<|ea r<|lv (opv_extract (v := .string (ethS vl h ((z.1 : Int) % 2) ((z.1 : Int) % 256) (pkt x))) r r) r<|lv (opv_extract (v := .int .i64 0) r r) r<|eb r<|nr<|ea r<|cy (EthDec vl h ((z.1 : Int) % 2) ((z.1 : Int) % 256) (pkt x) hl (sou_at hh z.1) (by omega) (by rw [hpz]; omega)) r fun _=>?_
    refine L_emp<|ea r<|lv (opv_extract (v := .agg [.int .i64 vl, .int .i64 h, .int .i64 ((z.1 : Int) % 2), .int .i64 ((z.1 : Int) % 256), .string (pkt x ++ zrs (45 - (pkt x).size))].toArray) r r) r<|lv (opv_extract (v := .int .i64 0) r r) r<|al r fun b21=>?_
    refine lx r (opx_store r r r (by simp [Value.oneCell'])) fun _ _=>an r<|sr ?_
    first | refine fz r ?_ | refine fy r ?_
    refine ld r r<|cy (D_back x (zrs (45 - (pkt x).size)) hx2 hx3 (by omega) (by rw [zrs_size]; omega)) r fun _=>L_emp<|ea r<|lv (opv_extract (v := .agg [.int .i64 x.id, .bool x.more, .int .i64 x.off, .int .i64 x.ttl, .int .i64 x.proto, .int .u8 x.s0, .int .u8 x.s1, .int .u8 x.s2, .int .u8 x.s3, .int .u8 x.d0, .int .u8 x.d1, .int .u8 x.d2, .int .u8 x.d3, .string x.data].toArray) r r) r<|lv (opv_extract (v := .int .i64 0) r r) r<|al r fun b23=>?_
    refine lx r (opx_store r r r (by simp [Value.oneCell'])) fun _ _=>an r<|js<|js<|J_quiet Tryz.mixed (by kernel_rfl)<|qa r<|qv ((opv_neq r r).bool_f (by decide)) r<|qa r<|qo r<|qa r<|qo r<|qv ((opv_neq r r).bool_f (by decide)) r ?_
    first | refine qa r ?_ | refine qv (opv_pick r r r) r ?_
    refine qa r<|qo r<|qa r<|qo r<|qv ((opv_neq r r).bool_f (by decide)) r ?_
    first | refine qa r ?_ | refine qv (opv_pick r r r) r ?_
    refine qa r<|qo r<|qa r<|qo r<|qv ((opv_neq r r).bool_f (by decide)) r ?_
    first | refine qa r ?_ | refine qv (opv_pick r r r) r ?_
    refine qa r<|qo r<|qa r<|qo r ?_
    first | refine qv (opv_lenL r) r ?_ | refine qv (opv_lenS r) r ?_
    refine qo r ?_
    first | refine qz r ?_ | refine qy r ?_
    refine qo r<|ql r r<|qo r<|qv ((opv_gtr r r).bool_f (by rw [hez]; omega)) r ?_
    first | refine qa r ?_ | refine qv (opv_pick r r r) r ?_
    refine qa r<|qo r ?_
    first | refine qz r ?_ | refine qy r ?_
    refine qo r<|ql r r<|qo r<|qa r<|qo r<|qv (opv_remP r r (by omega)) r<|qo r<|qv ((opv_neq r r).bool_f (fun n => n r)) r ?_
    first | refine qa r ?_ | refine qv (opv_pick r r r) r ?_
    refine qa r<|qo r<|qv (opv_loadS r) r<|qo r<|qa r<|qo r<|qa r<|qo r ?_
    first | refine qv (opv_indexAddr r r (by omega)) r ?_ | refine qv (opv_indexAddrA r r (by omega)) r ?_
    refine qo r<|qv (opv_loadN (vs := [.int .i64 x.id, .bool x.more, .int .i64 x.off, .int .i64 x.ttl, .int .i64 x.proto, .int .u8 x.s0, .int .u8 x.s1, .int .u8 x.s2, .int .u8 x.s3, .int .u8 x.d0, .int .u8 x.d1, .int .u8 x.d2, .int .u8 x.d3, .string x.data]) r r (fun j u hj => Rd.of_take (S := SLA.Own 39 14 (.slice (some (ad b1 o1)) (partsC p sm).length c1) (partsC p sm).length ((partsC p sm).flatMap encPk)) ((RdS.own (m := 14) (e := 39) (c := c1) encPk_len (.inr ⟨b1, o1, r⟩)).rd b1 o1 r z.1 x j u hx1 hj))) r<|qo r<|qv ((opv_neqF r r (by simp [Shape, CK.sh]) (by simp [Shape, CK.sh])).bool_f (fun n => n r)) r ?_
    first | refine qa r ?_ | refine qv (opv_pick r r r) r ?_
    refine qn<|kt<|cf r<|sk<|js ?_
    have hsp : FSpec Tryz.prog 15 #[.pointer (some (ad tp 0)), .int .i64 z.1, .agg [.int .i64 x.id, .bool x.more, .int .i64 x.off, .int .i64 x.ttl, .int .i64 x.proto, .int .u8 x.s0, .int .u8 x.s1, .int .u8 x.s2, .int .u8 x.s3, .int .u8 x.d0, .int .u8 x.d1, .int .u8 x.d2, .int .u8 x.d3, .string x.data].toArray] (TabP tp 1 100000 z.2.2) (fun _ : Unit => True) (fun _ => .tuple #[.agg [.int .i64 0, .bool false, .int .i64 0, .int .i64 0, .int .i64 0, .int .u8 0, .int .u8 0, .int .u8 0, .int .u8 0, .int .u8 0, .int .u8 0, .int .u8 0, .int .u8 0, .string ⟨#[]⟩].toArray, .bool false, .int .i64 0]) (fun _ => TabP tp 1 100000 (z.2.2.put 1 100000 z.1 x).2) := by
        have := Put_any tp 1 100000 z.2.2 z.1 x z.1 hz.ok (by omega) (by decide) (by omega)
        rw [hst, if_neg (by omega)] at this
        exact this
    refine jg<|eb r<|ls r<|cy hsp r fun _=>ea r ?_
    first | refine lv (opv_extract (v := .agg [.int .i64 p.id, .bool p.more, .int .i64 p.off, .int .i64 p.ttl, .int .i64 p.proto, .int .u8 p.s0, .int .u8 p.s1, .int .u8 p.s2, .int .u8 p.s3, .int .u8 p.d0, .int .u8 p.d1, .int .u8 p.d2, .int .u8 p.d3, .string p.data].toArray) r r) r ?_ | refine lv (opv_extract (v := .agg [.int .i64 0, .bool false, .int .i64 0, .int .i64 0, .int .i64 0, .int .u8 0, .int .u8 0, .int .u8 0, .int .u8 0, .int .u8 0, .int .u8 0, .int .u8 0, .int .u8 0, .string ⟨#[]⟩].toArray) r r) r ?_
    first | refine lv (opv_extract (v := .bool true) r r) r ?_ | refine lv (opv_extract (v := .bool false) r r) r ?_
    refine lv (opv_extract (v := .int .i64 0) r r) r<|al r fun b25=>?_
    refine lx r (opx_store r r r (by simp [Value.oneCell'])) fun _ _=>eb r<|nj<|sa r<|lv ((opv_neq r r).bool_f (by decide)) r<|ea r<|go r<|ea r<|go r<|ea r<|go r<|lv ((opv_add64 r r (by omega))) r<|go r<|ea r<|go r ?_
    first | refine ll r ?_ | refine lv (opv_lenS r) r ?_
    refine go r ?_
    first | refine lv ((opv_eql r r).bool_t (by omega)) r ?_ | refine lv ((opv_eql r r).bool_f (by omega)) r ?_
    refine go r<|lv ((opv_neqB r r).as (v' := .bool false) r) r ?_
    first | refine ea r ?_ | refine lv (opv_pick r r r) r ?_
    refine nf r<|sk<|san r<|cf r<|skb<|jg<|ea r ?_
    first | refine lv (opv_add64 r r (by omega)) r ?_ | refine lv (opv_addS r r (by omega)) r ?_ | refine lv (opv_add r r) r ?_
    refine ea r<|ln ?_
    exact K_loop ((z.1 + 1, a', (z.2.2.put 1 100000 z.1 x).2)) ⟨he, hw1⟩ (by dsimp only; omega) ⟨rfl, rfl, rfl, rfl, rfl, rfl, trivial⟩ Ent.take
end Go.Proofs.YtpkcniedaabpoaaGreat
namespace Go.Proofs.YtpkcniedaabpoaaGreat
open Go.SLA
set_option maxRecDepth 100000
abbrev k0 (a b c d e f g h : Nat) : List Value := [I 3, Sk a 0 3 3, I 1000, Sk b 0 3 3, Sk c d 1 e, Sk f g 4 h]
abbrev k1 (a : Nat) : List Value := [I 10, I 0, I 0, I 80, Ff, I 2, I 60000, Sk a 0 1 1]
abbrev k2 : List Value := [I 0, Tt, I 10, I 5]
abbrev k3 : List Value := [I 1, Ff, I 10, I 5]
abbrev k4 : List Value := [I 0, Tt, I 10, I 6]
abbrev k5 : List Value := [I 10, I 0, I 0, I 2, Tt, I 10, I 0, I 5, I 100, I 1, I 0]
abbrev k6 : List Value := [I 20, I 1, I 1, I 2, Ff, I 10, I 0, I 5, I 100, I 64, I 0]
abbrev k7 : List Value := [I 1, Ff, I 10, I 6]
abbrev k8 : List Value := [U8 10, U8 0, U8 0, U8 0]
abbrev k9 (a b c : Nat) : List Value := [Pt a 0, Pt b 0, Pt c 0]
abbrev k10 : List Value := [I 31, I 1, I 1, I 1, Ff, I 10, I 0, I 6, I 20, I 0, I 1000000]
abbrev k11 : List Value := [I 30, I 0, I 0, I 1, Tt, I 10, I 1, I 6, I 20, I 0, I 0]
abbrev k12 : List Value := [I 80, I 0, I 600, Ff]
abbrev k13 : List Value := [I 1, I 10, .string (⟨#[104, 101, 108, 108, 111]⟩), I 0, I 10, I 0]
abbrev k14 : List Value := [I 0, .string e0, I 10, I 94]
abbrev k15 : List Value := [I 10, I 0, I 0, .string e0, .string e1]
abbrev k16 : List Value := [I 10, I 10, I 94, .string e0, .string e1]
abbrev k17 (a : Nat) : List Value := [I 100, Pt a 0, .string e0]
abbrev k18 (a : Nat) : List Value := [I 100, Pt a 0, .string e1]
abbrev k19 : List Value := [U8 10, U8 0, U8 0, U8 0, U8 224, U8 224, U8 0, U8 10, I 5, I 5]
abbrev k20 : List Value := [I 3, I 20, Z, I 0, I 300, I 1]
abbrev k21 : List Value := [U8 224, U8 224, U8 0, U8 10]
abbrev k22 : List Value := [I 1, I 10, .string (⟨#[104, 101, 108, 108, 111]⟩), I 0]
abbrev k23 : List Value := [I 0, Ff, I 0, I 1, I 17, U8 10, U8 0, U8 0, U8 0, U8 224, U8 224, U8 0, U8 10, .string m1]
abbrev k24 (a : Nat) : List Value := [I 20, I 1, I 1, I 2, Ff, I 10, I 0, I 5, I 100, I 64, I 0, .iface 339 (Pt a 0)]
abbrev k25 : List Value := [I 0, .string (⟨#[104, 101, 108, 108, 111]⟩), Ff, I 0]
abbrev k26 : List Value := [Ns, Ns, I 1024, I 1024, I 0, I 0, Ff, I 0, Z, I 0, I 0, Ns, I 0]
abbrev k27 : List Value := [I 80, I 0, I 600, Ff, I 0, I 1048000, I 0, I 0]
abbrev k28 : List Value := [Ns, Ns, Ns, Ns, I 2, I 1024, I 0, I 0]
abbrev k29 : List Value := [I 20, I 200, .string (⟨#[104, 101, 108, 108, 111]⟩)]
abbrev c0 (a b : Nat) : HProp := blk a (.map [⟨I 10, Pt b 0, 0⟩].toArray 1)
abbrev c1 (a : Nat) : HProp := cel a [I 0, I 1, I 2] 3
abbrev c2 (a b c : Nat) : HProp := SLA.Own 153 11 (Sk a b 4 c) 4 (I 10 :: I 0 :: I 0 :: I 2 :: Tt :: I 10 :: I 0 :: I 5 :: I 100 :: I 1 :: I 0 :: I 20 :: I 1 :: I 1 :: I 2 :: Ff :: I 10 :: I 0 :: I 5 :: I 100 :: I 64 :: I 0 :: I 30 :: I 0 :: I 0 :: I 1 :: Tt :: I 10 :: I 1 :: I 6 :: I 20 :: I 0 :: I 0 :: I 31 :: I 1 :: I 1 :: I 1 :: Ff :: I 10 :: I 0 :: I 6 :: I 20 :: I 0 :: I 1000000 :: [])
abbrev c3 (a : Nat) : HProp := blk a (.map [].toArray 0)
abbrev c4 (a b c : Nat) : HProp := SLA.Own 3 1 (Sk a b 1 c) 1 [I 10]
abbrev c5 (a : Nat) : HProp := cel a [I 0, I 0, I 1000, I 1, I 0, I 1000, I 2, I 0, I 1000] 149
abbrev c6 (a b c d e f : Nat) : HProp := SLA.Own 202 1 (Sk a b 3 c) 3 (k9 d e f)
abbrev c7 (a b c d : Nat) : HProp := SLA.Own 151 8 (Sk a b 1 c) 1 (k1 d)
abbrev c8 (a b c d e f g h j k : Nat) : HProp := cel a [I 3, Sk b 0 3 3, I 1000, Sk c 0 3 3, Sk d e 1 f, Sk g h 4 j, Mp k] 186
abbrev c9 (a b c d : Nat) : HProp := cel a [Sk b (if c = 1 then d else d + 1 * 1) 0 (c - 1), Ns, Ns, Ns, I 2, I 1024, I 1, I 0] 326
abbrev c10 (a b c d e f : Nat) : HProp := cel a [I 10, I 0, I 0, I 80, Ff, I 2, I 60000, Sk b c 1 d, Pt e 0, Pt f 0, I 1, I 10] 269
abbrev c11 (a : Nat) : HProp := cel a k26 253
abbrev c12 (a b c d e f g : Nat) : HProp := cel a [I 10, I 0, I 0, I 80, Ff, I 2, I 60000, Sk b c 1 d, Pt e 0, Pt f 0, Pt g 0] 283
abbrev c13 (a b c d e f g h j k l m n o p q : Nat) : HProp := cel a [I 3, Sk b 0 3 3, I 1000, Sk c 0 3 3, Sk d e 1 f, Sk g h 4 j, Sk k l 3 m, Pt n 0, Pt o 0, Mp p, Mp q, Ns, I 10] 142
abbrev c14 (a b c : Nat) : HProp := SLA.Own 3 1 (Sk a b 1 c) 1 [I 1]
abbrev c15 (a : Nat) : HProp := cel a [Ns, I 0, I 0] 323
abbrev c16 (a : Nat) : HProp := cel a [Ns, Ns, I 1024, I 1024, I 0, I 0, Ff, I 0, Z, I 0, I 0, Ns, I 50] 253
abbrev c17 (a b c d e f : Nat) : HProp := SLA.Own 145 1 (Sk a b 3 c) 3 (k9 d e f)
abbrev c18 (a b : Nat) : HProp := cel a [Pt b 0] 183
abbrev c19 (a b : Nat) : HProp := cel a [Mp b] 289
abbrev c20 (a b c d e : Nat) : HProp := cel a [I 10, I 0, I 0, I 80, Ff, I 2, I 60000, Sk b c 1 d, Pt e 0, I 100] 213
abbrev c21 (a b c d e f g h j k l m : Nat) : HProp := cel a [I 3, Sk b 0 3 3, I 1000, Sk c 0 3 3, Sk d e 1 f, Sk g h 4 j, I 1, Mp k, Pt l 0, I 200, Mp m] 277
abbrev c22 (a b : Nat) : HProp := blk a (.map [⟨I 10, .agg (k1 b).toArray, 0⟩].toArray 1)
abbrev c23 (a : Nat) : HProp := blk a (.map [⟨I 0, I 1, 0⟩].toArray 1)
abbrev c24 (a b c : Nat) : HProp := SLA.Own 250 4 (Sk a b 1 c) 1 k14
abbrev c25 (a : Nat) : HProp := cel a [Ff, I 0, I 0, Ff, I 0, I 0] 332
abbrev c26 (a b c : Nat) : HProp := SLA.Own 9 1 (Sk a b 1 c) 1 [.string m2]
abbrev c27 (a : Nat) : HProp := cel a [Ns, I 50, I 0] 323
abbrev c28 (a : Nat) : HProp := cel a [Ns, I 100, I 0] 323
abbrev c29 (a : Nat) : HProp := cel a [Ns, Ns, I 1024, I 1024, I 0, I 0, Ff, I 0, Z, I 0, I 0, Ns, I 100] 253
abbrev c30 (a : Nat) : HProp := cel a [Ns, I 150, I 0] 323
abbrev c31 (a : Nat) : HProp := cel a [Ns, I 200, I 0] 323
abbrev c32 (a : Nat) : HProp := cel a [Ns, I 250, I 0] 323
abbrev c33 (a : Nat) : HProp := cel a k27 255
abbrev c34 (a b : Nat) : HProp := cel a [Mp b, Ns, I 64, I 1099511627776, I 0, I 0] 96
abbrev c35 (a b c : Nat) : HProp := blk a (.map [⟨I 20, .agg (k24 b).toArray, 0⟩, ⟨I 31, .agg [I 31, I 1, I 1, I 1, Ff, I 10, I 0, I 6, I 20, I 0, I 1000000, .iface 336 (Pt c 0)].toArray, 1⟩].toArray 2)
abbrev c36 (a : Nat) : HProp := cel a [Ns, Ns, I 1024, I 1024, I 0, I 0, Ff, I 0, Z, I 0, I 0, Ns, I 300] 253
abbrev c37 (a : Nat) : HProp := cel a [Ns, Ns, I 1024, I 1024, I 0, I 0, Ff, I 0, Z, I 0, I 0, Ns, I 150] 253
abbrev c38 (a : Nat) : HProp := cel a [Ns, Ns, I 1024, I 1024, I 0, I 0, Ff, I 0, Z, I 0, I 0, Ns, I 200] 253
abbrev c39 (a : Nat) : HProp := cel a [Ns, Ns, I 1024, I 1024, I 0, I 0, Ff, I 0, Z, I 0, I 0, Ns, I 250] 253
abbrev c40 (a b c d e f g h j : Nat) : HProp := cel a (k0 b c d e f g h j) 68
abbrev c41 (a b c d e : Nat) : HProp := cel a [I 10, I 0, I 0, I 80, Ff, I 2, I 60000, Sk b c 1 d, Pt e 0, I 0] 213
abbrev c42 (a : Nat) : HProp := cel a [Ns, I 10, I 0] 323
abbrev c43 (a b c d e f g h j k l m n : Nat) : HProp := cel a [I 3, Sk b 0 3 3, I 1000, Sk c 0 3 3, Sk d e 1 f, Sk g h 4 j, I 1, Pt k 0, Pt l 0, Pt m 0, Mp n, I 300] 218
abbrev c44 (a b c d e f g h j k l m n : Nat) : HProp := cel a [I 3, Sk b 0 3 3, I 1000, Sk c 0 3 3, Sk d e 1 f, Sk g h 4 j, I 1, Pt k 0, Pt l 0, Pt m 0, Mp n, I 1] 218
abbrev c45 (a b c d e f g h j k l m n : Nat) : HProp := cel a [I 3, Sk b 0 3 3, I 1000, Sk c 0 3 3, Sk d e 1 f, Sk g h 4 j, I 0, Pt k 0, Pt l 0, Pt m 0, Mp n, I 10] 218
abbrev c46 (a b c d e f : Nat) : HProp := cel a [I 10, I 0, I 0, I 80, Ff, I 2, I 60000, Sk b c 1 d, Pt e 0, Pt f 0, I 0, I 10] 269
abbrev c47 (a : Nat) : HProp := blk a (.map [⟨I 1, I 3, 0⟩].toArray 1)
abbrev c48 (a b c d : Nat) : HProp := cel a [Sk b c 1 d, Ns, Ns, Ns, I 2, I 1024, I 0, I 1] 326
abbrev c49 (a : Nat) : HProp := cel a [I 80, I 0, I 600, Ff, I 100, I 248000, I 1, I 0] 255
abbrev c50 (a : Nat) : HProp := cel a [Tt, I 0, I 0, Ff, I 0, I 0] 332
abbrev c51 (a : Nat) : HProp := cel a [Ns, I 300, I 0] 323
abbrev c52 (a : Nat) : HProp := blk a (.map [⟨I 0, I 3, 0⟩].toArray 1)
abbrev c53 (a : Nat) : HProp := cel a [.int .u64 0, Ff, I 0, I 0, I 0] 330
abbrev c54 (a : Nat) : HProp := cel a [Ns, I 60000, I 0, I 0, I 0, I 0] 335
abbrev c55 (a b c d e f g h j k l m n : Nat) : HProp := cel a [I 3, Sk b 0 3 3, I 1000, Sk c 0 3 3, Sk d e 1 f, Sk g h 4 j, I 0, Pt k 0, Pt l 0, Pt m 0, Mp n, I 1] 218
abbrev c56 (a b c d : Nat) : HProp := SLA.Own 308 3 (Sk a b 1 c) 1 (k17 d)
abbrev c57 (a b c d : Nat) : HProp := SLA.Own 308 3 (Sk a b 1 c) 1 (k18 d)
abbrev c58 (a : Nat) : HProp := cel a [Ns, Ns, I 1024, I 1024, I 0, I 0, Tt, I 10, .string e0, I 100, I 184, Ns, I 100] 253
abbrev c59 (a : Nat) : HProp := cel a [Ns, Ns, I 1024, I 1024, I 0, I 0, Tt, I 10, .string e1, I 100, I 184, Ns, I 100] 253
abbrev c60 (a : Nat) : HProp := cel a k28 326
abbrev c61 (a b c d : Nat) : HProp := cel a [Sk b c 1 d, I 50, I 94] 323
abbrev c62 (a b c d e f g h j k l m n o p : Nat) : HProp := cel a [I 3, Sk b 0 3 3, I 1000, Sk c 0 3 3, Sk d e 1 f, Sk g h 4 j, I 0, Mp k, Sk l m 1 n, Pt o 0, I 100, I 1, Mp p, I 1, Ns] 263
abbrev c63 (a b c d : Nat) : HProp := cel a [Sk b (if c = 1 then d else d + 1 * 4) 0 (c - 1), I 100, I 94] 323
abbrev c64 (a b c d : Nat) : HProp := cel a [Sk b (if c = 1 then d else d + 1 * 4) 0 (c - 1), I 150, I 94] 323
abbrev c65 (a b c d : Nat) : HProp := cel a [Sk b (if c = 1 then d else d + 1 * 4) 0 (c - 1), I 200, I 94] 323
abbrev c66 (a b c : Nat) : HProp := SLA.Own 9 1 (Sk a b 1 c) 1 [.string (⟨#[104, 101, 108, 108, 111]⟩)]
abbrev c67 (a b c d : Nat) : HProp := cel a [Sk b (if c = 1 then d else d + 1 * 4) 0 (c - 1), I 250, I 94] 323
abbrev c68 (a b c d e f : Nat) : HProp := cel a [I 10, I 0, I 0, I 80, Ff, I 2, I 60000, Sk b c 1 d, Pt e 0, Pt f 0, I 0, I 0] 269
abbrev c69 (a b c d e f g h j k l m : Nat) : HProp := cel a [I 3, Sk b 0 3 3, I 1000, Sk c 0 3 3, Sk d e 1 f, Sk g h 4 j, I 1, Mp k, Ns, Pt l 0, I 0, I 0, Mp m, I 0, Ns] 263
abbrev c70 (a b c d e f g h j k l m : Nat) : HProp := cel a [I 3, Sk b 0 3 3, I 1000, Sk c 0 3 3, Sk d e 1 f, Sk g h 4 j, I 2, Mp k, Ns, Pt l 0, I 0, I 0, Mp m, I 0, Ns] 263
abbrev c71 (a b c d e f g h j k l m n o p : Nat) : HProp := cel a [I 3, Sk b 0 3 3, I 1000, Sk c 0 3 3, Sk d e 1 f, Sk g h 4 j, I 0, Mp k, Sk l m 1 n, Pt o 0, I 10, I 1, Mp p, I 0, Ns] 263
abbrev c72 (a b c d e f g h j k l m n o p : Nat) : HProp := cel a [I 3, Sk b 0 3 3, I 1000, Sk c 0 3 3, Sk d e 1 f, Sk g h 4 j, I 0, Mp k, Sk l m 1 n, Pt o 0, I 50, I 1, Mp p, I 1, Ns] 263
abbrev c73 (a b c d e f g h j k l m : Nat) : HProp := cel a [I 3, Sk b 0 3 3, I 1000, Sk c 0 3 3, Sk d e 1 f, Sk g h 4 j, I 1, Mp k, Ns, Pt l 0, I 50, I 0, Mp m, I 0, Ns] 263
abbrev c74 (a b c d e f g h j k l m : Nat) : HProp := cel a [I 3, Sk b 0 3 3, I 1000, Sk c 0 3 3, Sk d e 1 f, Sk g h 4 j, I 2, Mp k, Ns, Pt l 0, I 50, I 0, Mp m, I 0, Ns] 263
abbrev c75 (a b c d e f g h j k l m : Nat) : HProp := cel a [I 3, Sk b 0 3 3, I 1000, Sk c 0 3 3, Sk d e 1 f, Sk g h 4 j, I 1, Mp k, Ns, Pt l 0, I 100, I 0, Mp m, I 0, Ns] 263
abbrev c76 (a b c d e f g h j k l m : Nat) : HProp := cel a [I 3, Sk b 0 3 3, I 1000, Sk c 0 3 3, Sk d e 1 f, Sk g h 4 j, I 2, Mp k, Ns, Pt l 0, I 100, I 0, Mp m, I 0, Ns] 263
abbrev c77 (a b c d e f g h j k l m n o p : Nat) : HProp := cel a [I 3, Sk b 0 3 3, I 1000, Sk c 0 3 3, Sk d e 1 f, Sk g h 4 j, I 0, Mp k, Sk l m 1 n, Pt o 0, I 150, I 1, Mp p, I 1, Ns] 263
abbrev c78 (a b c d e f g h j k l m : Nat) : HProp := cel a [I 3, Sk b 0 3 3, I 1000, Sk c 0 3 3, Sk d e 1 f, Sk g h 4 j, I 1, Mp k, Ns, Pt l 0, I 150, I 0, Mp m, I 0, Ns] 263
abbrev c79 (a b c d e f g h j k l m : Nat) : HProp := cel a [I 3, Sk b 0 3 3, I 1000, Sk c 0 3 3, Sk d e 1 f, Sk g h 4 j, I 2, Mp k, Ns, Pt l 0, I 150, I 0, Mp m, I 0, Ns] 263
abbrev c80 (a b c d e f g h j k l m n o p : Nat) : HProp := cel a [I 3, Sk b 0 3 3, I 1000, Sk c 0 3 3, Sk d e 1 f, Sk g h 4 j, I 0, Mp k, Sk l m 1 n, Pt o 0, I 200, I 1, Mp p, I 1, Ns] 263
abbrev c81 (a b c d e f g h j k l m n : Nat) : HProp := cel a [I 3, Sk b 0 3 3, I 1000, Sk c 0 3 3, Sk d e 1 f, Sk g h 4 j, I 1, Pt k 0, Pt l 0, Pt m 0, Mp n, I 200] 218
abbrev c82 (a b c d e f g h j k l m : Nat) : HProp := cel a [I 3, Sk b 0 3 3, I 1000, Sk c 0 3 3, Sk d e 1 f, Sk g h 4 j, I 1, Mp k, Ns, Pt l 0, I 200, I 0, Mp m, I 0, Ns] 263
abbrev c83 (a b c d e f g h j k l m : Nat) : HProp := cel a [I 3, Sk b 0 3 3, I 1000, Sk c 0 3 3, Sk d e 1 f, Sk g h 4 j, I 2, Mp k, Ns, Pt l 0, I 200, I 0, Mp m, I 0, Ns] 263
abbrev c84 (a b c d : Nat) : HProp := cel a [Sk b c 1 d, I 60000, I 200, I 1, I 0, I 0] 335
abbrev c85 (a b c d e f g h j k l m n o p : Nat) : HProp := cel a [I 3, Sk b 0 3 3, I 1000, Sk c 0 3 3, Sk d e 1 f, Sk g h 4 j, I 0, Mp k, Sk l m 1 n, Pt o 0, I 250, I 1, Mp p, I 1, Ns] 263
abbrev c86 (a b c d e f g h j k l m : Nat) : HProp := cel a [I 3, Sk b 0 3 3, I 1000, Sk c 0 3 3, Sk d e 1 f, Sk g h 4 j, I 1, Mp k, Ns, Pt l 0, I 250, I 0, Mp m, I 0, Ns] 263
abbrev c87 (a b c d e f g h j k l m : Nat) : HProp := cel a [I 3, Sk b 0 3 3, I 1000, Sk c 0 3 3, Sk d e 1 f, Sk g h 4 j, I 2, Mp k, Ns, Pt l 0, I 250, I 0, Mp m, I 0, Ns] 263
abbrev c88 (a : Nat) : HProp := blk a (.map [⟨I 1, I 1, 0⟩].toArray 1)
abbrev c89 (a b c d e f g h j k l m n o p q : Nat) : HProp := cel a [I 3, Sk b 0 3 3, I 1000, Sk c 0 3 3, Sk d e 1 f, Sk g h 4 j, Sk k l 3 m, Pt n 0, Pt o 0, Mp p, Mp q, Ns, I 1] 142
abbrev c90 (a b c : Nat) : HProp := SLA.Own 425 3 (Sk a b 1 c) 1 [I 0, I 200, .int .u64 1]
abbrev c91 (a b c d e f : Nat) : HProp := cel a [I 0, Sk b c 3 d, Mp e, Ns, I 0, Mp f] 201
abbrev c92 (a b c d e f : Nat) : HProp := cel a [I 1, Sk b c 3 d, Mp e, Ns, I 0, Mp f] 201
abbrev c93 (a b c d e f g h j k l m n o p : Nat) : HProp := cel a [I 3, Sk b 0 3 3, I 1000, Sk c 0 3 3, Sk d e 1 f, Sk g h 4 j, I 0, Mp k, Sk l m 1 n, Pt o 0, I 0, I 0, Mp p, I 0, Ns] 263
abbrev c94 (a : Nat) : HProp := cel a [Ns, I 64, Ff] 341
abbrev c95 (a : Nat) : HProp := blk a (.map [⟨I 0, .agg k15.toArray, 0⟩].toArray 1)
abbrev c96 (a b c d e f g h j : Nat) : HProp := cel a [I 0, Sk b c 3 d, Mp e, Sk f (if g = 1 then h else h + 1 * 3) 0 (g - 1), I 100, Mp j] 201
abbrev c97 (a b c d e f g h j : Nat) : HProp := cel a [I 1, Sk b c 3 d, Mp e, Sk f (if g = 1 then h else h + 1 * 3) 0 (g - 1), I 100, Mp j] 201
abbrev c98 (a b : Nat) : HProp := cel a [Mp b, Ns, I 64, I 1099511627776, I 200, I 0] 96
abbrev c99 (a b c d e f g h j k l m n o p : Nat) : HProp := cel a [I 3, Sk b 0 3 3, I 1000, Sk c 0 3 3, Sk d e 1 f, Sk g h 4 j, I 0, Mp k, Sk l m 1 n, Pt o 0, I 300, I 1, Mp p, I 1, Ns] 263
abbrev c100 (a b c d e f g h j k l m : Nat) : HProp := cel a [I 3, Sk b 0 3 3, I 1000, Sk c 0 3 3, Sk d e 1 f, Sk g h 4 j, I 1, Mp k, Ns, Pt l 0, I 300, I 0, Mp m, I 0, Ns] 263
abbrev c101 (a b c d e f g h j k l m : Nat) : HProp := cel a [I 3, Sk b 0 3 3, I 1000, Sk c 0 3 3, Sk d e 1 f, Sk g h 4 j, I 2, Mp k, Ns, Pt l 0, I 300, I 0, Mp m, I 0, Ns] 263
abbrev c102 (a b c d e f g h j k l m : Nat) : HProp := cel a [I 3, Sk b 0 3 3, I 1000, Sk c 0 3 3, Sk d e 1 f, Sk g h 4 j, I 1, Mp k, Pt l 0, I 0, Mp m] 277
abbrev c103 (a b c d e f g h j k l m n o p : Nat) : HProp := cel a [I 3, Sk b 0 3 3, I 1000, Sk c 0 3 3, Sk d e 1 f, Sk g h 4 j, I 0, Mp k, Sk l m 1 n, Pt o 0, I 10, I 0, Mp p, I 0, Ns] 263
abbrev c104 (a : Nat) : HProp := cel a [.int .u64 0, Tt, I 10, I 10, I 1] 330
abbrev c105 (a b c d e f : Nat) : HProp := cel a [I 0, Sk b c 3 d, Mp e, Ns, I 50, Mp f] 201
abbrev c106 (a b c d e f : Nat) : HProp := cel a [I 1, Sk b c 3 d, Mp e, Ns, I 50, Mp f] 201
abbrev c107 (a : Nat) : HProp := cel a [Ns, Ns, I 1024, I 1024, I 0, I 0, Tt, I 10, .string e0, I 100, I 184, Ns, I 150] 253
abbrev c108 (a : Nat) : HProp := cel a [Ns, Ns, I 1024, I 1024, I 0, I 0, Tt, I 10, .string e1, I 100, I 184, Ns, I 150] 253
abbrev c109 (a b c d : Nat) : HProp := cel a [Sk b c 1 d, I 64, Ff] 341
abbrev c110 (a b c d : Nat) : HProp := cel a [Sk b c 1 d, I 60000, I 200, I 1, I 1, I 0] 335
abbrev c111 (a b c : Nat) : HProp := SLA.Own 425 3 (Sk a b 1 c) 1 [I 0, I 200, .int .u64 3]
abbrev c112 (a : Nat) : HProp := cel a [Ns, Ns, I 1024, I 1024, I 0, I 0, Ff, I 10, .string e0, I 100, I 184, Ns, I 250] 253
abbrev c113 (a : Nat) : HProp := cel a [Ns, Ns, I 1024, I 1024, I 0, I 0, Ff, I 10, .string e1, I 100, I 184, Ns, I 250] 253
abbrev c114 (a b c d : Nat) : HProp := cel a [Sk b (if c = 1 then d else d + 1 * 4) 0 (c - 1), I 300, I 94] 323
abbrev c115 (a : Nat) : HProp := cel a [.func (.func 80) #[] #[]] 188
abbrev c116 (a b : Nat) : HProp := cel a (k1 b) 151
abbrev c117 (a b c d e f g h j k l m n : Nat) : HProp := cel a [I 3, Sk b 0 3 3, I 1000, Sk c 0 3 3, Sk d e 1 f, Sk g h 4 j, I 2, Pt k 0, Pt l 0, Pt m 0, Mp n, I 0] 218
abbrev c118 (a b c d e f g h j k l m n o p : Nat) : HProp := cel a [I 3, Sk b 0 3 3, I 1000, Sk c 0 3 3, Sk d e 1 f, Sk g h 4 j, I 0, Mp k, Sk l m 1 n, Pt o 0, I 50, I 1, Mp p, I 0, Ns] 263
abbrev c119 (a : Nat) : HProp := blk a (.map [].toArray 1)
abbrev c120 (a b c d e f g h j : Nat) : HProp := cel a [I 0, Sk b c 3 d, Mp e, Sk f g 1 h, I 100, Mp j] 201
abbrev c121 (a b c d e f g h j : Nat) : HProp := cel a [I 1, Sk b c 3 d, Mp e, Sk f g 1 h, I 100, Mp j] 201
abbrev c122 (a : Nat) : HProp := cel a [Ns, Ns, I 1024, I 1024, I 0, I 0, Ff, I 10, .string e0, I 100, I 184, Ns, I 200] 253
abbrev c123 (a : Nat) : HProp := cel a [Ns, Ns, I 1024, I 1024, I 0, I 0, Ff, I 10, .string e1, I 100, I 184, Ns, I 200] 253
abbrev c124 (a : Nat) : HProp := cel a k5 153
abbrev c125 (a b c d e f g h j : Nat) : HProp := cel a [I 0, Sk b c 3 d, Mp e, Sk f (if g = 1 then h else h + 1 * 3) 0 (g - 1), I 150, Mp j] 201
abbrev c126 (a b c d e f g h j : Nat) : HProp := cel a [I 1, Sk b c 3 d, Mp e, Sk f (if g = 1 then h else h + 1 * 3) 0 (g - 1), I 150, Mp j] 201
abbrev c127 (a b c d e f g h j : Nat) : HProp := cel a [I 0, Sk b c 3 d, Mp e, Sk f (if g = 1 then h else h + 1 * 3) 0 (g - 1), I 200, Mp j] 201
abbrev c128 (a b : Nat) : HProp := cel a [I 10, I 0, I 0, I 0, .string m3, Pt b 0, I 200, I 0, .string e0, I 0, Ff, I 0, I 0, I 0, U8 0, U8 0, U8 0, U8 0, U8 0, U8 0, U8 0, U8 0, Z, Ff, I 0, I 0, Z] 373
abbrev c129 (a b : Nat) : HProp := cel a [I 10, I 0, I 0, I 0, .string m3, Pt b 0, I 200, I 0, .string e0, I 0, Ff, I 0, I 1, I 17, U8 10, U8 0, U8 0, U8 0, U8 224, U8 224, U8 0, U8 10, .string m1, Tt, I 0, I 0, Z] 373
abbrev c130 (a b c d e f g h j : Nat) : HProp := cel a [I 1, Sk b c 3 d, Mp e, Sk f (if g = 1 then h else h + 1 * 3) 0 (g - 1), I 200, Mp j] 201
abbrev c131 (a b c d e f g h j : Nat) : HProp := cel a [I 0, Sk b c 3 d, Mp e, Sk f (if g = 1 then h else h + 1 * 3) 0 (g - 1), I 250, Mp j] 201
abbrev c132 (a b c d e f g h j : Nat) : HProp := cel a [I 1, Sk b c 3 d, Mp e, Sk f (if g = 1 then h else h + 1 * 3) 0 (g - 1), I 250, Mp j] 201
abbrev c133 (a : Nat) : HProp := cel a [Ns, Ns, I 1024, I 1024, I 0, I 0, Ff, I 10, .string e0, I 100, I 184, Ns, I 300] 253
abbrev c134 (a : Nat) : HProp := cel a [Ns, Ns, I 1024, I 1024, I 0, I 0, Ff, I 10, .string e1, I 100, I 184, Ns, I 300] 253
abbrev c135 (a b c d e f g h j k l m n : Nat) : HProp := cel a [I 3, Sk b 0 3 3, I 1000, Sk c 0 3 3, Sk d e 1 f, Sk g h 4 j, I 0, Pt k 0, Pt l 0, Pt m 0, Mp n, I 0] 218
abbrev c136 (a b c d e f g h j k l m n : Nat) : HProp := cel a [I 3, Sk b 0 3 3, I 1000, Sk c 0 3 3, Sk d e 1 f, Sk g h 4 j, I 1, Pt k 0, Pt l 0, Pt m 0, Mp n, I 0] 218
abbrev c137 (a b c d e f g h j k l m n : Nat) : HProp := cel a [I 3, Sk b 0 3 3, I 1000, Sk c 0 3 3, Sk d e 1 f, Sk g h 4 j, I 0, Pt k 0, Pt l 0, Pt m 0, Mp n, I 50] 218
abbrev c138 (a b c d e f g h j k l m n : Nat) : HProp := cel a [I 3, Sk b 0 3 3, I 1000, Sk c 0 3 3, Sk d e 1 f, Sk g h 4 j, I 1, Pt k 0, Pt l 0, Pt m 0, Mp n, I 50] 218
abbrev c139 (a b c d e f g h j k l m n : Nat) : HProp := cel a [I 3, Sk b 0 3 3, I 1000, Sk c 0 3 3, Sk d e 1 f, Sk g h 4 j, I 2, Pt k 0, Pt l 0, Pt m 0, Mp n, I 50] 218
abbrev c140 (a b c d e f g h j k l m n : Nat) : HProp := cel a [I 3, Sk b 0 3 3, I 1000, Sk c 0 3 3, Sk d e 1 f, Sk g h 4 j, I 0, Pt k 0, Pt l 0, Pt m 0, Mp n, I 100] 218
abbrev c141 (a b c d e f g h j k l m n : Nat) : HProp := cel a [I 3, Sk b 0 3 3, I 1000, Sk c 0 3 3, Sk d e 1 f, Sk g h 4 j, I 1, Pt k 0, Pt l 0, Pt m 0, Mp n, I 100] 218
abbrev c142 (a b c d e f g h j k l m n : Nat) : HProp := cel a [I 3, Sk b 0 3 3, I 1000, Sk c 0 3 3, Sk d e 1 f, Sk g h 4 j, I 2, Pt k 0, Pt l 0, Pt m 0, Mp n, I 100] 218
abbrev c143 (a b c d e f g h j k l m n : Nat) : HProp := cel a [I 3, Sk b 0 3 3, I 1000, Sk c 0 3 3, Sk d e 1 f, Sk g h 4 j, I 0, Pt k 0, Pt l 0, Pt m 0, Mp n, I 150] 218
abbrev c144 (a b c d e f g h j k l m n : Nat) : HProp := cel a [I 3, Sk b 0 3 3, I 1000, Sk c 0 3 3, Sk d e 1 f, Sk g h 4 j, I 1, Pt k 0, Pt l 0, Pt m 0, Mp n, I 150] 218
abbrev c145 (a b c d e f g h j k l m n : Nat) : HProp := cel a [I 3, Sk b 0 3 3, I 1000, Sk c 0 3 3, Sk d e 1 f, Sk g h 4 j, I 2, Pt k 0, Pt l 0, Pt m 0, Mp n, I 150] 218
abbrev c146 (a b c d e f g h j k l m n : Nat) : HProp := cel a [I 3, Sk b 0 3 3, I 1000, Sk c 0 3 3, Sk d e 1 f, Sk g h 4 j, I 0, Pt k 0, Pt l 0, Pt m 0, Mp n, I 200] 218
abbrev c147 (a b c d e f g h j k l m n : Nat) : HProp := cel a [I 3, Sk b 0 3 3, I 1000, Sk c 0 3 3, Sk d e 1 f, Sk g h 4 j, I 2, Pt k 0, Pt l 0, Pt m 0, Mp n, I 200] 218
abbrev c148 (a b : Nat) : HProp := cel a [I 10, I 0, I 1, I 0, .string m3, Pt b 0, I 200, I 1, .string e1, I 0, Ff, I 0, I 0, I 0, U8 0, U8 0, U8 0, U8 0, U8 0, U8 0, U8 0, U8 0, Z, Ff, I 0, I 0, Z] 373
abbrev c149 (a : Nat) : HProp := blk a (.map [⟨I 0, I 1, 0⟩, ⟨I 21, I 1, 1⟩].toArray 2)
abbrev c150 (a b c d e f g h j k l m n : Nat) : HProp := cel a [I 3, Sk b 0 3 3, I 1000, Sk c 0 3 3, Sk d e 1 f, Sk g h 4 j, I 0, Pt k 0, Pt l 0, Pt m 0, Mp n, I 250] 218
abbrev c151 (a b c d e f g h j k l m n : Nat) : HProp := cel a [I 3, Sk b 0 3 3, I 1000, Sk c 0 3 3, Sk d e 1 f, Sk g h 4 j, I 1, Pt k 0, Pt l 0, Pt m 0, Mp n, I 250] 218
abbrev c152 (a b c d e f g h j k l m n : Nat) : HProp := cel a [I 3, Sk b 0 3 3, I 1000, Sk c 0 3 3, Sk d e 1 f, Sk g h 4 j, I 2, Pt k 0, Pt l 0, Pt m 0, Mp n, I 250] 218
abbrev c153 (a b c d e f g h j k l m n : Nat) : HProp := cel a [I 3, Sk b 0 3 3, I 1000, Sk c 0 3 3, Sk d e 1 f, Sk g h 4 j, I 0, Pt k 0, Pt l 0, Pt m 0, Mp n, I 300] 218
abbrev c154 (a b c d e f g h j k l m n : Nat) : HProp := cel a [I 3, Sk b 0 3 3, I 1000, Sk c 0 3 3, Sk d e 1 f, Sk g h 4 j, I 2, Pt k 0, Pt l 0, Pt m 0, Mp n, I 300] 218
abbrev c155 (a b c d e f g h j : Nat) : HProp := cel a [I 0, Sk b c 3 d, Mp e, Sk f (if g = 1 then h else h + 1 * 3) 0 (g - 1), I 300, Mp j] 201
abbrev c156 (a b c d e f g h j : Nat) : HProp := cel a [I 1, Sk b c 3 d, Mp e, Sk f (if g = 1 then h else h + 1 * 3) 0 (g - 1), I 300, Mp j] 201
abbrev c157 (a b c d e f g h j k l m n o p q : Nat) : HProp := cel a [I 3, Sk b 0 3 3, I 1000, Sk c 0 3 3, Sk d e 1 f, Sk g h 4 j, Sk k l 3 m, Pt n 0, Pt o 0, Mp p, Mp q, Ns, I 0] 142
abbrev c158 (a : Nat) : HProp := blk a (.map [⟨I 10, I 1, 0⟩].toArray 1)
abbrev c159 (a : Nat) : HProp := blk a (.map [⟨I 0, I 1000, 0⟩].toArray 1)
abbrev c160 (a : Nat) : HProp := blk a (.map [⟨I 0, I 1000, 0⟩, ⟨I 1, I 1000, 1⟩].toArray 2)
abbrev c161 (a : Nat) : HProp := cel a k6 153
abbrev c162 (a b c d : Nat) : HProp := cel a [I 10, I 0, I 0, I 80, Ff, I 2, I 60000, Sk b c 1 d] 151
abbrev c163 (a b c d : Nat) : HProp := cel a [Sk b c 1 d, I 10, I 94] 323
abbrev c164 (a : Nat) : HProp := cel a k14 250
abbrev c165 (a b c : Nat) : HProp := SLA.Own 299 5 (Sk a b 1 c) 1 k16
abbrev c166 (a b c d e f : Nat) : HProp := cel a [I 0, Sk b c 3 d, Mp e, Ns, I 100, Mp f] 201
abbrev c167 (a b : Nat) : HProp := cel a (k17 b) 308
abbrev c168 (a b c d e f : Nat) : HProp := cel a [I 1, Sk b c 3 d, Mp e, Ns, I 100, Mp f] 201
abbrev c169 (a b : Nat) : HProp := cel a (k18 b) 308
abbrev c170 (a b c d : Nat) : HProp := cel a [Sk b (if c = 1 then d else d + 1 * 1) 0 (c - 1), I 64, Ff] 341
abbrev c171 (a : Nat) : HProp := blk a (.map [⟨I 0, I 1000, 0⟩, ⟨I 1, I 1000, 1⟩, ⟨I 2, I 1000, 2⟩].toArray 3)
abbrev c172 (a : Nat) : HProp := cel a k10 153
abbrev c173 (a b c d e f g h j k l m : Nat) : HProp := cel a [I 3, Sk b 0 3 3, I 1000, Sk c 0 3 3, Sk d e 1 f, Sk g h 4 j, I 0, Mp k, Pt l 0, I 0, Mp m] 277
abbrev c174 (a : Nat) : HProp := cel a [Z, I 0, Ff] 338
abbrev c175 (a b c d e f g h j k l m : Nat) : HProp := cel a [I 3, Sk b 0 3 3, I 1000, Sk c 0 3 3, Sk d e 1 f, Sk g h 4 j, I 2, Mp k, Pt l 0, I 0, Mp m] 277
abbrev c176 (a : Nat) : HProp := cel a k13 230
abbrev c177 (a : Nat) : HProp := cel a k15 299
abbrev c178 (a : Nat) : HProp := cel a k19 32
abbrev c179 (a b : Nat) : HProp := cel a [I 10, I 0, I 0, I 0, .string m3, Pt b 0, I 200, I 0, .string e0, I 0, Ff, I 0, I 1, I 17, U8 10, U8 0, U8 0, U8 0, U8 224, U8 224, U8 0, U8 10, .string m1, Tt, I 20, I 200, .string (⟨#[104, 101, 108, 108, 111]⟩)] 373
abbrev c180 (a b c d e f g h j k l m n o p q : Nat) : HProp := cel a [I 3, Sk b 0 3 3, I 1000, Sk c 0 3 3, Sk d e 1 f, Sk g h 4 j, Sk k l 3 m, Pt n 0, Pt o 0, Mp p, Mp q, Ns, I 300] 142
abbrev c181 (a : Nat) : HProp := cel a k20 230
abbrev c182 (a : Nat) : HProp := cel a k11 153
abbrev c183 (a : Nat) : HProp := blk a (.map [⟨I 2, I 1, 0⟩].toArray 1)
abbrev c184 (a : Nat) : HProp := cel a [I 80, I 0, I 600, Ff, I 100, I 1048000, I 0, I 0] 255
abbrev c185 (a b c d : Nat) : HProp := cel a [Ns, Ns, I 1024, I 1024, I 0, I 0, Ff, I 10, .string e0, I 100, I 184, Sk b c 1 d, I 200] 253
abbrev c186 (a b c : Nat) : HProp := SLA.Own 250 4 (Sk a b 1 c) 1 [I 10, .string e0, I 100, I 184]
abbrev c187 (a : Nat) : HProp := cel a [I 0, I 0, I 0, I 0, Z, Np, I 200, I 0, .string e0, I 0, Ff, I 0, I 0, I 0, U8 0, U8 0, U8 0, U8 0, U8 0, U8 0, U8 0, U8 0, Z, Ff, I 0, I 0, Z] 373
abbrev c188 (a b c d : Nat) : HProp := cel a [Ns, Ns, I 1024, I 1024, I 0, I 0, Ff, I 10, .string e1, I 100, I 184, Sk b c 1 d, I 200] 253
abbrev c189 (a b c : Nat) : HProp := SLA.Own 250 4 (Sk a b 1 c) 1 [I 10, .string e1, I 100, I 184]
abbrev c190 (a : Nat) : HProp := cel a [I 0, I 0, I 0, I 0, Z, Np, I 200, I 1, .string e1, I 0, Ff, I 0, I 0, I 0, U8 0, U8 0, U8 0, U8 0, U8 0, U8 0, U8 0, U8 0, Z, Ff, I 0, I 0, Z] 373
end Go.Proofs.YtpkcniedaabpoaaGreat
