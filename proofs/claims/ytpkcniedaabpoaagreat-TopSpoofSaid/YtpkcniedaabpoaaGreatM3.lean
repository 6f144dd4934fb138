/- Rules of a separation logic over the model, and what functions of the translation do; used by the texts that import this one. -/
import Derived.ScopeJumps
import Derived.RangeFuncLeaves
import Derived.RangeFuncCalls
import Derived.RangeFuncRecord
import Derived.OrdersIn
import Derived.TacticsIn
import Derived.Test.YtpkcniedaabpoaaGreatM2
set_option linter.unusedVariables false
set_option linter.unusedSimpArgs false
namespace Go.SLA
section
attribute [local instance] Classical.propDecidable
variable {rs : List ResultVar} {vs : List Value} {fn : Func} {X : Type} {d i j t : Nat} {ty : TypeId} {pos : String} {aft : Array Edge} {g : Option (Nat × Bool)} {op : Op} {v : Value} {R0 : ab} {o : Oper} {want : Bool} {φ : X -> Prop} {val : X -> Value} {Qo R' R2 : X -> ab}
variable {prog : Program} {σ : World} {n : Nat} {Q : Exit -> Act -> World -> Prop} {E E' : Env} {P P' R F : ab} {ops : Array Oper} {rest : List Oper}
inductive ResL (prog : Program) (E : Env) (P : ab) : List ResultVar -> List Value -> Prop
 | nil : ResL prog E P [] []
 | tmp {t : Tmp} {v : Value} {rs : List ResultVar} {vs : List Value} (h : Env.get E t = some v) (k : ResL prog E P rs vs) : ResL prog E P (.tmp t :: rs) (v :: vs)
 | one {r : Tmp} {ty : TypeId} {b o : Nat} {v : Value} {rs : List ResultVar} {vs : List Value} [One prog ty] (h : Env.get E r = some (.pointer (some (ad b o)))) (hr : Rd P b o v) (k : ResL prog E P rs vs) : ResL prog E P (.cell r ty :: rs) (v :: vs)
 | agg {r : Tmp} {ty : TypeId} {b m : Nat} {l : List Value} {te : TypeId} {R : ab} {rs : List ResultVar} {vs : List Value} [Agg prog ty m] [Look P b l te R] (h : Env.get E r = some (.pointer (some (ad b 0)))) (hl : l.length = m) (k : ResL prog E P rs vs) : ResL prog E P (.cell r ty :: rs) (.agg l.toArray :: vs)
def oF (a : Act) : ResultVar -> Sem Value
 | .tmp t => pure (a.tmps.getD t undef)
 | .cell r t => do loadVar t (<- asAddr (a.tmps.getD r undef))
theorem ResL.run (h : ResL prog E P rs vs) {a : Act} {w : World} (ha : Agree n E a) (hs : Sat σ w P) : (rs.mapM (oF a)).run prog w = .ok vs w := by
 have step : ∀ {r : ResultVar} {v : Value} {rs : List ResultVar} {vs : List Value}, (oF a r).run prog w = .ok v w -> (rs.mapM (oF a)).run prog w = .ok vs w -> ((r :: rs).mapM (oF a)).run prog w = .ok (v :: vs) w := fun h1 h2 => by
  simp only [List.mapM_cons, Sem.run_bind, h1, h2, Result.andThen_ok, Sem.run_pure]
 have slot : ∀ {t : Tmp} {v : Value}, Env.get E t = some v -> a.tmps.getD t undef = v := fun h => by rw [Array.getD_eq_getD_getElem?, ha.slot _ _ h]; rfl
 induction h with
 | nil => simp
 | tmp h k ih => exact step (by simp only [oF, slot h, Sem.run_pure]) ih
 | @one r ty b o v rs vs _ h hr k ih =>
  obtain ⟨dd, i, h1, h2, h3, h4⟩ := One.spec (prog := prog) ty
  have hl : (loadVar ty (ad b o)).run prog w = .ok v w := by simp only [loadVar, Sem.run_bind, gr h1, h2, Result.andThen_ok, Bool.false_eq_true, if_false, run_load, hr σ w hs]
  exact step (by simp only [oF, slot h, asAddr, Sem.run_bind, Sem.run_pure, Result.andThen_ok, hl]) ih
 | @agg r ty b m l te R rs vs _ hk h hl k ih =>
  have hlv := gq (prog := prog) (tr := ty) (hk := hk) hl hs
  exact step (by simp only [oF, slot h, asAddr, Sem.run_bind, Sem.run_pure, Result.andThen_ok, hlv]) ih
def zf : List Value -> Value
 | [v] => v
 | vs => .tuple vs.toArray
theorem sX (vs : List Value) : (if h : vs.toArray.size = 1 then vs.toArray[0] else .tuple vs.toArray) = zf vs := by
 match vs with
 | [] => rfl
 | [v] => rfl
 | _ :: _ :: l => simp [zf]
theorem bM (hr : fn.results = rs.toArray) (h : ResL prog E P rs vs) (x : X) (hx : φ x) (hv : zf vs = val x) (hp : Ent P (aa (Qo x) (F))) :
  K σ n (bodyPost prog fn (bd σ φ val Qo F)) .ret E P := fun a w ha hs => by
 refine ⟨ha.defers, zf vs, ?_, x, hx, by rw [hv], hs.ent hp⟩
 have h1 := h.run ha hs
 have e : results fn a.tmps = (do let vs <- fn.results.mapM (oF a); pure (if h : vs.size = 1 then vs[0] else .tuple vs)) := by
  unfold results
  congr 2
 rw [e, hr, Sem.run_bind, Array.mapM_eq_mapM_toList, Sem.run_map, h1]
 simp only [Result.andThen_ok, Sem.run_pure]
 rw [<- sX]
theorem ug (hr : fn.results = rs.toArray) (h : ResL prog E P rs vs) (x : X) (hx : φ x) (hv : zf vs = val x) (hp : Ent P (aa (Qo x) (F))) :
 K σ n (bodyPost prog fn (bd σ φ val Qo F)) .normal E P := bM hr h x hx hv hp
theorem zI {recv : Operand} {name : String} {args : Array Operand} {tys : Array TypeId} {f : FuncId} {rv : Value} {ws : Array Value} {P0 : ab}
  (hs : FSpec prog f ws P0 φ val Qo) (hr : ev E recv = some rv) (hv : evl E args.toList = some vs) (hm : ∀ w, (callMethod rv name vs.toArray).run prog w = .ok (.enter f ws) w) (hd : Nat.blt d n = true) [hT : Take P P0 R] :
  OpX prog σ n E P ⟨some d, .call ⟨.invoke recv name, args, tys⟩, ty, pos, aft, g⟩ φ (fun x => (d, val x) :: E) (fun x => (aa (Qo x) (R))) := by
 intro a w ha hw' Kn Q' hk
 have hrun : (execOp a.eval ⟨some d, .call ⟨.invoke recv name, args, tys⟩, ty, pos, aft, g⟩).run prog w = .ok (.enter f ws) w := by
  have h1 : (#[a.eval recv] ++ args.map a.eval) = #[rv] ++ vs.toArray := by rw [ha.ev hr, ha.evls hv]
  simp only [execOp, resolve, Sem.run_bind, Sem.run_pure, Result.andThen_ok, invoke, h1]
  have h2 : (#[rv] ++ vs.toArray)[0]? = some rv := by simp
  have h3 : (#[rv] ++ vs.toArray).extract 1 (#[rv] ++ vs.toArray).size = vs.toArray := by simp
  simp only [h2, h3]
  exact hm w
 unfold Oper.wp
 rw [hrun, Oper.upon_enter]
 rw [hT.eq] at hw'
 refine (hs σ w R hw').mono ?_
 rintro e w'' ⟨x, hx, rfl, hx'⟩
 exact hk x _ _ hx (ha.put (Nat.le_of_ble_eq_true hd) _) hx'
theorem wZ {d : Option Tmp} {x : Operand} {xt at' : TypeId} {ok : Bool} {u : Value} (v : Value) (hx : ev E x = some u) (hm : ∀ w, (Instr.typeAssert u xt at' ok).run prog w = .ok v w) :
 OpV prog σ n E P ⟨d, .typeAssert x xt at' ok, ty, pos, aft, g⟩ v := fun _ w ha _ => by simp only [execOp, ha.ev hx, Sem.run_bind, hm w, Result.andThen_ok, Sem.run_pure]
section
variable {S0 S : ab} {B : List Nat} {fuel : Nat} {listed : Array Bool}
def Is (ops : Array Oper) (B : List Nat) (listed : Array Bool) (i : Nat) : Bool := Region.noSelect ops && Region.free .any ops listed i && (Region.ready .any ops listed).contains i && lg ops B i && dN B listed
def zg (ops : Array Oper) (B : List Nat) (listed : Array Bool) (i : Nat) : Bool := Region.noSelect ops && Region.free .any ops listed i && (Region.ready .any ops listed).contains i && !B.contains i
def Hh (ops : Array Oper) (B : List Nat) (listed : Array Bool) (i : Nat) : Bool := (Region.ready .any ops listed == [i]) && !dN B (listed.setIfInBounds i true)
theorem qJ (i : Nat) [NP Q] [h0 : Take P S0 R0] (hi : ops[i]? = some ⟨some d, op, ty, pos, aft, none⟩) (hk : (zg ops B listed i && !dN B listed) = true) (h : OpV prog σ n E S0 ⟨some d, op, ty, pos, aft, none⟩ v) (hd : Nat.blt d n = true)
  (k : Rg prog σ n ops Q S0 S B fuel (listed.setIfInBounds i true) ((d, v) :: E) P) : Rg prog σ n ops Q S0 S B (fuel + 1) listed E P := by
 simp only [zg, Bool.and_eq_true, Bool.not_eq_true'] at hk
 exact yn i hi hk.1.1.1.1 hk.1.1.1.2 hk.1.1.2 hk.1.2 (.inl hk.2) h hd k
theorem jv (i : Nat) {E' : X -> Env} {P' : X -> ab} (hi : ops[i]? = some o) (hg : o.guard = none) (hk : Hh ops B listed i = true) (h : OpX prog σ n E P o φ E' P') [hS0 : ∀ x, Take (P' x) S0 (R' x)]
  (k : ∀ x, φ x -> Rg prog σ n ops Q S0 S B fuel (listed.setIfInBounds i true) (E' x) (P' x)) : Rg prog σ n ops Q S0 S B (fuel + 1) listed E P := by
 simp only [Hh, Bool.and_eq_true, Bool.not_eq_true'] at hk
 exact tU i hi hg (eq_of_beq hk.1) h (fun x _ => ⟨_, (hS0 x).eq⟩) (.inl hk.2) k
theorem If (i : Nat) [h0 : Take P S0 R0] (hi : ops[i]? = some ⟨some d, op, ty, pos, aft, none⟩) (hk : Hh ops B listed i = true) (h : OpV prog σ n E P ⟨some d, op, ty, pos, aft, none⟩ v) (hd : Nat.blt d n = true)
  (k : Rg prog σ n ops Q S0 S B fuel (listed.setIfInBounds i true) ((d, v) :: E) P) : Rg prog σ n ops Q S0 S B (fuel + 1) listed E P := by
 simp only [Hh, Bool.and_eq_true, Bool.not_eq_true'] at hk
 exact tU i hi rfl (eq_of_beq hk.1) (h.opx rfl hd) (fun x _ => ⟨_, h0.eq⟩) (.inl hk.2) fun _ _ => k
def Hk (prog : Program) (σ : World) (n : Nat) (ops : Array Oper) (Q : Exit -> Act -> World -> Prop) (S0 S : ab) (B : List Nat) (fuel : Nat) (listed : Array Bool) (E : Env) (P : ab) (i : Nat) : Prop :=
 ∃ (o : Oper) (X : Type) (φ : X -> Prop) (E' : X -> Env) (P' : X -> ab), ops[i]? = some o /\ o.guard = none /\ OpX prog σ n E P o φ E' P' /\ ∀ x, φ x -> (∃ R', P' x = (aa (S0) (R'))) /\ (dN B (listed.setIfInBounds i true) = false \/ ∃ R', P' x = (aa (S) (R'))) /\ Rg prog σ n ops Q S0 S B fuel (listed.setIfInBounds i true) (E' x) (P' x)
theorem k8 (rs : List Nat) (hr : Region.ready .any ops listed = rs) (hne : rs.isEmpty = false) (h : ∀ i, i ∈ rs -> Hk prog σ n ops Q S0 S B fuel listed E P i) : Rg prog σ n ops Q S0 S B (fuel + 1) listed E P := fk rs hr hne h
theorem DH {E' : X -> Env} {P' : X -> ab} (hi : ops[i]? = some o) (hg : o.guard = none) (hk : (!dN B (listed.setIfInBounds i true)) = true) (h : OpX prog σ n E P o φ E' P') [hS0 : ∀ x, Take (P' x) S0 (R' x)]
  (k : ∀ x, φ x -> Rg prog σ n ops Q S0 S B fuel (listed.setIfInBounds i true) (E' x) (P' x)) : Hk prog σ n ops Q S0 S B fuel listed E P i :=
 ⟨o, X, φ, E', P', hi, hg, h, fun x hx => ⟨⟨_, (hS0 x).eq⟩, .inl (by simpa using hk), k x hx⟩⟩
theorem dv (i : Nat) [NP Q] [hS : Take P S R] [h0 : Take P S0 R0] (hi : ops[i]? = some ⟨some d, op, ty, pos, aft, none⟩) (hk : Is ops B listed i = true) (h : OpV prog σ n E S ⟨some d, op, ty, pos, aft, none⟩ v) (hd : Nat.blt d n = true)
  (k : Rg prog σ n ops Q S0 S B fuel (listed.setIfInBounds i true) ((d, v) :: E) P) : Rg prog σ n ops Q S0 S B (fuel + 1) listed E P := by
 simp only [Is, Bool.and_eq_true] at hk
 exact DF i hi hk.1.1.1.1 hk.1.1.1.2 hk.1.1.2 hk.1.2 hk.2 h hd k
theorem AK (i : Nat) [NP Q] [hS : Take P S R] [h0 : Take P S0 R0] (hi : ops[i]? = some ⟨some d, op, ty, pos, aft, none⟩) (hk : zg ops B listed i = true) (h : OpV prog σ n E S0 ⟨some d, op, ty, pos, aft, none⟩ v) (hd : Nat.blt d n = true)
  (k : Rg prog σ n ops Q S0 S B fuel (listed.setIfInBounds i true) ((d, v) :: E) P) : Rg prog σ n ops Q S0 S B (fuel + 1) listed E P := by
 simp only [zg, Bool.and_eq_true, Bool.not_eq_true'] at hk
 exact yn i hi hk.1.1.1 hk.1.1.2 hk.1.2 hk.2 (.inr ⟨_, hS.eq⟩) h hd k
theorem py (i : Nat) [NP Q] [hS : Take P S R] [h0 : Take P S0 R0] (hi : ops[i]? = some ⟨some d, op, ty, pos, aft, some (j, want)⟩) (hk : zg ops B listed i = true) (hj : (ops[j]?).bind (·.dst) = some t) (hb : Env.get E t = some (.bool want))
  (h : OpV prog σ n E S0 ⟨some d, op, ty, pos, aft, none⟩ v) (hd : Nat.blt d n = true) (k : Rg prog σ n ops Q S0 S B fuel (listed.setIfInBounds i true) ((d, v) :: E) P) : Rg prog σ n ops Q S0 S B (fuel + 1) listed E P := by
 simp only [zg, Bool.and_eq_true, Bool.not_eq_true'] at hk
 exact AJ i hi hk.1.1.1 hk.1.1.2 hk.1.2 hk.2 (.inr ⟨_, hS.eq⟩) hj hb h hd k
theorem IU (i : Nat) {E' : X -> Env} {P' : X -> ab} (hi : ops[i]? = some o) (hg : o.guard = none) (hk : (Region.ready .any ops listed == [i]) = true) (h : OpX prog σ n E P o φ E' P') [hS0 : ∀ x, Take (P' x) S0 (R' x)] [hS : ∀ x, Take (P' x) S (R2 x)]
  (k : ∀ x, φ x -> Rg prog σ n ops Q S0 S B fuel (listed.setIfInBounds i true) (E' x) (P' x)) : Rg prog σ n ops Q S0 S B (fuel + 1) listed E P :=
 tU i hi hg (eq_of_beq hk) h (fun x _ => ⟨_, (hS0 x).eq⟩) (.inr fun x _ => ⟨_, (hS x).eq⟩) k
theorem Ig (i : Nat) {d : Option Tmp} {E' : X -> Env} {P' : X -> ab} (hi : ops[i]? = some ⟨d, op, ty, pos, aft, some (j, want)⟩) (hk : (Region.ready .any ops listed == [i]) = true) (hj : (ops[j]?).bind (·.dst) = some t) (hb : Env.get E t = some (.bool want))
  (h : OpX prog σ n E P ⟨d, op, ty, pos, aft, none⟩ φ E' P') [hS0 : ∀ x, Take (P' x) S0 (R' x)] [hS : ∀ x, Take (P' x) S (R2 x)] (k : ∀ x, φ x -> Rg prog σ n ops Q S0 S B fuel (listed.setIfInBounds i true) (E' x) (P' x)) : Rg prog σ n ops Q S0 S B (fuel + 1) listed E P :=
 AL i hi hj hb (eq_of_beq hk) h (fun x _ => ⟨_, (hS0 x).eq⟩) (.inr fun x _ => ⟨_, (hS x).eq⟩) k
theorem bT {E' : X -> Env} {P' : X -> ab} (hi : ops[i]? = some o) (hg : o.guard = none) (h : OpX prog σ n E P o φ E' P') [hS0 : ∀ x, Take (P' x) S0 (R' x)] [hS : ∀ x, Take (P' x) S (R2 x)]
  (k : ∀ x, φ x -> Rg prog σ n ops Q S0 S B fuel (listed.setIfInBounds i true) (E' x) (P' x)) : Hk prog σ n ops Q S0 S B fuel listed E P i :=
 ⟨o, X, φ, E', P', hi, hg, h, fun x hx => ⟨⟨_, (hS0 x).eq⟩, .inr ⟨_, (hS x).eq⟩, k x hx⟩⟩
theorem yo [hS : Take P S R] [h0 : Take P S0 R0] (hi : ops[i]? = some ⟨some d, op, ty, pos, aft, none⟩) (h : OpV prog σ n E P ⟨some d, op, ty, pos, aft, none⟩ v) (hd : Nat.blt d n = true)
  (k : Rg prog σ n ops Q S0 S B fuel (listed.setIfInBounds i true) ((d, v) :: E) P) : Hk prog σ n ops Q S0 S B fuel listed E P i :=
 ⟨_, Unit, fun _ => True, fun _ => (d, v) :: E, fun _ => P, hi, rfl, h.opx rfl hd, fun _ _ => ⟨⟨_, h0.eq⟩, .inr ⟨_, hS.eq⟩, k⟩⟩
end
end
section
attribute [local instance] Classical.propDecidable
variable {v : Value} {vs l : List Value} {e m i r : Nat} {ty : TypeId} {pos : String} {aft : Array Edge} {x : Operand} {A P R : ab} {ks : List CK} {f : List Value -> Option Value} {ok : Bool}
variable {prog : Program} {σ : World} {n : Nat} {Q : Exit -> Act -> World -> Prop} {E E' : Env} {P P' R F : ab} {ops : Array Oper} {rest : List Oper}
section
variable {d : Nat} {ty : TypeId} {pos : String} {aft : Array Edge} {g : Option (Nat × Bool)} {x y : Operand} {t t' : TypeId}
theorem o8 (m : Nat) : ∀ (vs : List Value) (k : Nat) (l : List Value), (∀ v ∈ vs, v.cells.toList.length = m) -> (k + vs.length) * m <= l.length ->
  Instr.fill (fun i => some (i * m, m)) l.toArray (kQ k vs) = some (l.take (k * m) ++ vs.flatMap (fun v => v.cells.toList) ++ l.drop ((k + vs.length) * m)).toArray
 | [], k, l, _, _ => by simp [kQ, Instr.fill]
 | v :: vs, k, l, h, hk => by
  simp only [List.length_cons] at hk
  have hv := h v (by simp)
  have hkm : k * m + m <= l.length := by
   have : (k + 1) * m <= (k + (vs.length + 1)) * m := Nat.mul_le_mul_right _ (by omega)
   rw [Nat.add_mul, Nat.one_mul] at this
   omega
  rw [kQ, kg (o := k * m) (m := m) (vs := v.cells.toList) rfl rfl hv hkm]
  have hl2 : (l.take (k * m) ++ v.cells.toList ++ l.drop (k * m + m)).length = l.length := by simp [hv]; omega
  rw [o8 m vs (k + 1) _ (fun u hu => h u (by simp [hu])) (by rw [hl2]; rw [show k + 1 + vs.length = k + (vs.length + 1) by omega]; exact hk)]
  congr 2
  have t1 : (l.take (k * m) ++ v.cells.toList ++ l.drop (k * m + m)).take ((k + 1) * m) = l.take (k * m) ++ v.cells.toList := by
   rw [List.take_left' (by rw [List.length_append, List.length_take, hv, Nat.min_eq_left (by omega), Nat.add_mul, Nat.one_mul])]
  have t2 : (l.take (k * m) ++ v.cells.toList ++ l.drop (k * m + m)).drop ((k + 1 + vs.length) * m) = l.drop ((k + (vs.length + 1)) * m) := by
   rw [show (k + 1 + vs.length) * m = (k * m + m) + vs.length * m by simp only [Nat.add_mul, Nat.one_mul], <- List.drop_drop, List.drop_left' (by simp [hv]; omega), List.drop_drop]
   congr 1
   simp only [Nat.add_mul, Nat.one_mul]
   omega
  rw [t1, t2, List.length_cons]
  simp
class FlatC (vs : List Value) (l : outParam (List Value)) : Prop where
 eq : vs.flatMap (fun v => v.cells.toList) = l
instance : FlatC [] [] := ⟨rfl⟩
instance {l1 l2 l3 : List Value} [h1 : Cel v l1] [h2 : FlatC vs l2] [h3 : AppL l1 l2 l3] : FlatC (v :: vs) l3 := ⟨by rw [List.flatMap_cons, h1.c, h2.eq]; exact h3.eq⟩
theorem fE {len : Nat} {zs : List Value} {parts : Array (Nat × Operand)} [Slc prog t e m] [Zer prog e zs] (he : evl E (parts.toList.map (·.2)) = some vs) (hi : parts.toList.map (·.1) = List.range' 0 parts.toList.length) (hl : vs.length = len)
  (hc : (vs.all fun v => Nat.beq v.cells.toList.length m) = true) [hf : FlatC vs l] (hlen : decide (0 < len * m /\ len * m <= 16777216) = true) (hd : Nat.blt d n = true) :
  OpX prog σ n E P ⟨some d, .buildSlice t len parts, ty, pos, aft, g⟩ (fun _ : Nat => True) (fun b => (d, .slice (some (ad b 0)) len len) :: E) (fun b => (aa (am b l e) (P))) := by
 refine bI rfl hd fun a w ha hs => ?_
 have he' : evp E parts.toList = some (kQ 0 vs) := nZ _ 0 vs he hi
 obtain ⟨hu, i, hi, hsz⟩ := Slc.spec (prog := prog) t e m
 obtain ⟨i', z, h1', h2, h3⟩ := Zer.spec (prog := prog) e zs
 have hlen := of_decide_eq_true hlen
 refine ⟨w.heap.size, w.alloc (.cells l.toArray e), trivial, ?_, hs.alloc _⟩
 have hps : (parts.map fun x => (x.1, a.eval x.2)) = (kQ 0 vs).toArray := by rw [<- ha.evp he']; exact Array.toList_inj.1 (by rw [Array.toList_map])
 have hff : ∀ zc : Array Value, Instr.fill (fun i => some (i * m, m)) ((Array.range (len * m)).map (zc[· % zc.size]!)) (kQ 0 vs) = some l.toArray := fun zc => by
  have := o8 m vs 0 ((Array.range (len * m)).map (zc[· % zc.size]!)).toList (fun v hv => Nat.eq_of_beq_eq_true (List.all_eq_true.1 hc v hv)) (by simp [hl])
  rw [Array.toArray_toList] at this
  rw [this, hf.eq]
  simp [hl]
 have hsz' : (sizeOf e).run prog w = .ok m w := by rw [bk hi, hsz]
 have hle : ¬ (len * m > 2 ^ 24) := by omega
 have h0 : ¬ (len * m = 0) := by omega
 simp only [execOp, Instr.buildSlice, Sem.run_bind, ba hu, Result.andThen_ok, hsz', hle, if_false, Sem.run_ite, Sem.run_pure, hps, h0, zeroValue, cP h1', h2, hff, newRow, run_newObj]
 rfl
end
theorem zL {d : Option Nat} {g : Option (Nat × Bool)} {t t' : Nat} {p : Option Addr} {l c : Nat} {r : Bool} [h : Slc prog t e m] (hx : ev E x = some (.slice p l c)) (hr : p.isNone = r) : OpV prog σ n E P ⟨d, .binOp .eql t x (.const (.slice none 0 0)) t', ty, pos, aft, g⟩ (.bool r) := fun _ w ha hw => by
 obtain ⟨hu, _⟩ := Slc.spec (prog := prog) t e m
 subst hr
 simp only [execOp, ha.ev hx, ha.ev (show ev E (.const (.slice none 0 0)) = some (.slice none 0 0) from rfl)]
 rw [show eqGuard .eql t x (.const (.slice none 0 0)) (.slice p l c) (.slice none 0 0) = pure () from rfl, show binOp .eql t (.slice p l c) (.slice none 0 0) = (do pure (.bool (<- Op.equal t (.slice p l c) (.slice none 0 0)))) from by cases p <;> rfl]
 have : (Op.equal t (.slice p l c) (.slice none 0 0)).run prog w = .ok p.isNone w := by
  show (Op.equalIn (9999 + 1) t (.slice p l c) (.slice none 0 0)).run prog w = _
  generalize 9999 = dep
  unfold Op.equalIn
  rw [Sem.run_bind, ba hu, Result.andThen_ok]
  cases p <;> rfl
 simp [this]
class GetL (l : List Value) (i : Nat) (v : outParam Value) : Prop where
 eq : l[i]? = some v
instance {x : Value} : GetL (x :: l) 0 x := ⟨rfl⟩
instance {x : Value} [h : GetL l i v] : GetL (x :: l) (i + 1) v := ⟨by rw [List.getElem?_cons_succ, h.eq]⟩
theorem mu {d : Option Tmp} {g : Option (Nat × Bool)} (hx : ev E x = some (.tuple l.toArray)) [h : GetL l i v] : OpV prog σ n E P ⟨d, .extract x i, ty, pos, aft, g⟩ v :=
 ap hx (by rw [List.getElem?_toArray]; exact h.eq)
variable {d : Option Nat} {ty : TypeId} {pos : String} {aft : Array Edge} {g : Option (Nat × Bool)} {x y z : Operand} {t kt : TypeId} {ks : List CK} {r : Nat} {f : List Value -> Option Value} {k : List Value} {v u zv : Value} {s : Int}
class LookQ (P : ab) (r : Nat) (ks : outParam (List CK)) (f : outParam (List Value -> Option Value)) (R : outParam ab) : Prop where
 eq : P = (aa (eX r ks f) (R))
instance (priority := 100) [h : LookQ P r ks f R] : LookQ (aa (A) (P)) r ks f (aa (A) (R)) := ⟨by rw [h.eq, aR]⟩
instance (priority := 150) {B : ab} [h : LookQ (aa (A) (aa (B) (P))) r ks f R] : LookQ (aa ((aa (A) (B))) (P)) r ks f R := ⟨by rw [ak]; exact h.eq⟩
instance (priority := 200) : LookQ (aa (eX r ks f) (R)) r ks f R := ⟨rfl⟩
theorem fX [hm : MapZ prog t kt zv] [EqT prog kt ks] (hx : ev E x = some (.map (some r))) (hy : ev E y = some (.agg k.toArray)) [hT : LookQ P r ks f R] (hk : Shape ks k) (fo : Option Value) (hf : f k = fo)
  (hv : (bif ok then .tuple #[fo.getD zv, .bool fo.isSome] else fo.getD zv) = v) : OpV prog σ n E P ⟨d, .lookup t x y ok, ty, pos, aft, g⟩ v := fun _ w ha hw => by
 rw [hT.eq] at hw
 have := mT (prog := prog) (t := t) hk hw ok
 simp only [execOp, ha.ev hx, ha.ev hy, Sem.run_bind, this, Result.andThen_ok, Sem.run_pure]
 rw [hf, <- hv]
 cases ok <;> rfl
def zU (r : Nat) (ks : List CK) (f : List Value -> Option Value) (k : List Value) (v0 : Value) (s : Int) : ab := ex fun x : (Array MapEntry × Nat) × Nat =>
 (aa (lift ((MapOk ks x.1.1.toList (ek f k v0) /\ BornOk x.1.1.toList x.1.2) /\ ∃ e, x.1.1.toList[x.2]? = some e /\ e.key = .agg k.toArray /\ (e.born : Int) = s)) (blk r (.map x.1.1 x.1.2)))
theorem eN {d : Nat} [hm : MapZ prog t kt zv] [EqT prog kt ks] (hx : ev E x = some (.map (some r))) (hy : ev E y = some (.agg k.toArray)) [hT : LookQ P r ks f R] (hk : Shape ks k) (v0 : Value) (hv0 : (f k).getD zv = v0) (hd : Nat.blt d n = true) :
  OpX prog σ n E P ⟨some d, .mapEntry t x y, ty, pos, aft, g⟩ (fun _ : Int => True) (fun q => (d, .tuple #[v0, .int .i64 q]) :: E) (fun q => (aa (zU r ks f k v0 q) (R))) := by
 refine bI rfl hd fun a w ha hw => ?_
 rw [hT.eq] at hw
 obtain ⟨e, h1, h2⟩ := hm.spec
 obtain ⟨es, clk, hb, ho, hbo, hw'⟩ := rt hw
 have hck := iY (prog := prog) (t := kt) hk false w
 have fin : ∀ (es' : Array MapEntry) (clk' i : Nat) (e' : MapEntry), MapOk ks es'.toList (ek f k v0) -> BornOk es'.toList clk' -> es'.toList[i]? = some e' -> e'.key = .agg k.toArray -> 
   Sat σ { w with heap := w.heap.setIfInBounds r (.map es' clk') } (aa (zU r ks f k v0 e'.born) (R)) := fun es' clk' i e' q1 q2 q3 q4 => by
  have h := lt (es' := es') (c' := clk') hw'
  refine h.ent (Ent.frame ?_ R)
  exact Ent.trans (Ent.lift (p := (MapOk ks es'.toList (ek f k v0) /\ BornOk es'.toList clk') /\ ∃ e, es'.toList[i]? = some e /\ e.key = .agg k.toArray /\ (e.born : Int) = e'.born) ⟨⟨q1, q2⟩, e', q3, q4, rfl⟩) (bh (f := fun x : (Array MapEntry × Nat) × Nat => (aa (lift ((MapOk ks x.1.1.toList (ek f k v0) /\ BornOk x.1.1.toList x.1.2) /\ ∃ e, x.1.1.toList[x.2]? = some e /\ e.key = .agg k.toArray /\ (e.born : Int) = e'.born)) (blk r (.map x.1.1 x.1.2)))) ((es', clk'), i))
 rcases gJ (prog := prog) (t := kt) hk w ho with ⟨h3, hn, h4⟩ | ⟨j, e', h3, h5, h6, hs⟩
 ·have hz : zv = v0 := by rw [<- hv0, hn]; rfl
  subst hz
  refine ⟨clk, _, trivial, ?_, fin (es.push { key := .agg k.toArray, val := zv, born := clk }) (clk + 1) es.size { key := .agg k.toArray, val := zv, born := clk } (by rw [Array.toList_push]; exact ho.put_new hk h4 zv) (by rw [Array.toList_push]; exact hbo.push _ rfl) (by simp) rfl⟩
  simp only [execOp, ha.ev hx, ha.ev hy, Instr.mapEntry, Sem.run_bind, run_underlying h1, Result.andThen_ok, run_getObj_map w r es clk hb, hck, h3, h2 w, dZ _ hb, Sem.run_pure]
  rfl
 ·have h7 : (es[j]?.map (·.key)).getD (.agg k.toArray) = .agg k.toArray := by
   rw [<- Array.getElem?_toList, h5]
   exact h6
  have h8 : (es[j]?.map (fun x => (x.born : Int))).getD 0 = (e'.born : Int) := by rw [<- Array.getElem?_toList, h5]; rfl
  have h9 : es.modify j (fun e => { e with key := .agg k.toArray }) = es.modify j (fun e => { e with key := .agg k.toArray, val := e'.val }) := by
   apply Array.ext_getElem?
   intro i
   rw [Array.getElem?_modify, Array.getElem?_modify]
   by_cases hij : j = i
   ·subst hij
    rw [<- Array.getElem?_toList, h5]
    simp
   ·simp [hij]
  have hz : e'.val = v0 := by rw [<- hv0, hs]; rfl
  subst hz
  refine ⟨(e'.born : Int), _, trivial, ?_, fin (es.modify j fun e => { e with key := .agg k.toArray, val := e'.val }) clk j { e' with key := .agg k.toArray, val := e'.val } (by rw [Array.toList_modify]; exact ho.put_at hk h5 h6 e'.val) (by rw [Array.toList_modify]; exact hbo.modify _ fun _ => rfl) (by rw [Array.toList_modify, List.getElem?_modify, h5]; simp) rfl⟩
  simp only [execOp, ha.ev hx, ha.ev hy, Instr.mapEntry, Sem.run_bind, run_underlying h1, Result.andThen_ok, run_getObj_map w r es clk hb, hck, h3, h7, lN (prog := prog) hk w, dZ _ hb, Sem.run_pure, h8, h9]
  rfl
class LookE (P : ab) (r : Nat) (ks : outParam (List CK)) (f : outParam (List Value -> Option Value)) (k : outParam (List Value)) (u : outParam Value) (s : outParam Int) (R : outParam ab) : Prop where
 eq : P = (aa (zU r ks f k u s) (R))
instance (priority := 200) {s : Int} {k : List Value} {u : Value} : LookE (aa (zU r ks f k u s) (R)) r ks f k u s R := ⟨rfl⟩
theorem mt {k2 : List Value} [hm : MapZ prog t kt zv] [EqT prog kt ks] (hx : ev E x = some (.map (some r))) (hy : ev E y = some (.agg k2.toArray)) [hT : LookE P r ks f k u s R] (hk : Shape ks k2) (fo : Option Value) (hf : ek f k u k2 = fo)
  (hv : (bif ok then .tuple #[fo.getD zv, .bool fo.isSome] else fo.getD zv) = v) : OpV prog σ n E P ⟨d, .lookup t x y ok, ty, pos, aft, g⟩ v := fun _ w ha hw => by
 rw [hT.eq] at hw
 obtain ⟨⟨⟨es, clk⟩, i⟩, hh⟩ := sat_ex.1 hw
 simp only [ak] at hh
 obtain ⟨⟨⟨ho, hbo⟩, _⟩, hw'⟩ := sat_lift.1 hh
 have hq : Sat σ w (aa (eX r ks (ek f k u)) (R)) := hw'.ent ((qi ho hbo).frame R)
 have := mT (prog := prog) (t := t) hk hq ok
 simp only [execOp, ha.ev hx, ha.ev hy, Sem.run_bind, this, Result.andThen_ok, Sem.run_pure]
 rw [hf, <- hv]
 cases ok <;> rfl
theorem dP (hx : ev E x = some (.map (some r))) (hy : ev E y = some (.int .i64 s)) (hz : ev E z = some v) [hT : LookE P r ks f k u s R] (hk : Shape ks k) :
  OpX prog σ n E P ⟨none, .entryStore t x y z, ty, pos, aft, g⟩ (fun _ : Unit => True) (fun _ => E) (fun _ => (aa (eX r ks (ek f k v)) (R))) := by
 refine gL rfl fun a w ha hw => ?_
 rw [hT.eq] at hw
 obtain ⟨⟨⟨es, clk⟩, i⟩, hh⟩ := sat_ex.1 hw
 simp only [ak] at hh
 obtain ⟨⟨⟨ho, hbo⟩, e, he, hek, hes⟩, hw'⟩ := sat_lift.1 hh
 have hb := hw'.blk
 have hil : i < es.size := by have := (List.getElem?_eq_some_iff.1 he).1; rwa [Array.length_toList] at this
 have hei : es[i] = e := by have := (List.getElem?_eq_some_iff.1 he).2; simpa using this
 have hfind : es.findIdx? (fun e => (e.born : Int) == s) = some i := by
  rw [Array.findIdx?_eq_some_iff_getElem]
  refine ⟨hil, by simp [hei, hes], fun j hj => ?_⟩
  simp only [Bool.not_eq_true, beq_eq_false_iff_ne, ne_eq]
  intro hjs
  have hjl : j < es.size := by omega
  have hnd := hbo.1
  have h1 : (es.toList.map (·.born))[j]? = some e.born := by
   rw [List.getElem?_map, Array.getElem?_toList, Array.getElem?_eq_getElem hjl]
   have : es[j].born = e.born := by omega
   simp [this]
  have h2 : (es.toList.map (·.born))[i]? = some e.born := by rw [List.getElem?_map, he]; rfl
  have := (List.getElem?_inj (by rw [List.length_map, Array.length_toList]; exact hjl) hnd).1 (h1.trans h2.symm)
  omega
 have hput := ho.put_at (k := k) hk he hek v
 have hff : ek (ek f k u) k v = ek f k v := by
  funext q
  unfold ek
  split <;> simp_all
 rw [hff] at hput
 have hmod : es.modify i (fun e => { e with val := v }) = es.modify i (fun e => { e with key := .agg k.toArray, val := v }) := by
  apply Array.ext_getElem?
  intro j
  rw [Array.getElem?_modify, Array.getElem?_modify]
  by_cases hij : i = j
  ·subst hij
   rw [<- Array.getElem?_toList, he]
   simp [hek]
  ·simp [hij]
 refine ⟨(), _, trivial, ?_, wP (es' := es.modify i fun e => { e with key := .agg k.toArray, val := v }) (c' := clk) hw' (by rw [Array.toList_modify]; exact hput) (by rw [Array.toList_modify]; exact hbo.modify _ fun _ => rfl)⟩
 simp only [execOp, ha.ev hx, ha.ev hy, ha.ev hz, Instr.entryStore, asInt, asIntOf, Sem.run_bind, run_getObj_map w r es clk hb, Sem.run_pure, Result.andThen_ok, hfind, dZ _ hb, hmod]
end
section
variable {fn : Func} {m id b f off e len cap j s : Nat} {X : Type} {l vs : List Value} {c : Operand} {v : Value} {Qo P0 : ab} {a : Int} {op : Op} {te : TypeId} {p : Option Addr} {want : Bool} {args : Array Operand} {tys : Array TypeId} {φ : X -> Prop} {val : X -> Value}
variable {prog : Program} {σ : World} {n : Nat} {Q : Exit -> Act -> World -> Prop} {E E' : Env} {P P' R F : ab} {ops : Array Oper} {rest : List Oper} {Qa : Act -> Prop}
abbrev I (n : Int) : Value := .int .i64 n
abbrev U8 (n : Int) : Value := .int .u8 n
abbrev Tt : Value := .bool true
abbrev Ff : Value := .bool false
abbrev Pt (b o : Nat) : Value := .pointer (some (ad b o))
abbrev Sk (b o l c : Nat) : Value := .slice (some (ad b o)) l c
abbrev Np : Value := .pointer none
abbrev Ns : Value := .slice none 0 0
abbrev Mp (r : Nat) : Value := .map (some r)
abbrev Z : Value := .string ⟨#[]⟩
abbrev St (l : List UInt8) : Value := .string ⟨l.toArray⟩
abbrev Sp (prog : Program) (f : FuncId) (args : Array Value) (P : ab) (v : Value) (Qo : ab) : Prop := FSpec prog f args P (fun _ : Unit => True) (fun _ => v) (fun _ => Qo)
abbrev Kp (prog : Program) (f : FuncId) (args : Array Value) (P : ab) (v : Value) : Prop := FSpec prog f args P (fun _ : Unit => True) (fun _ => v) (fun _ => P)
theorem en {f : FuncId} {c : Code} {args : List Value} {Qo : X -> ab} (hf : prog.funcs[f]? = some fn) (hb : (fn.body, fn.ntmps, Nat.ble args.length m) = (some c, m, true))
  (h : ∀ σ F, J prog σ m c (bodyPost prog fn (bd σ φ val Qo F)) (dm 0 args) (aa (P) (F))) : FSpec prog f args.toArray P φ val Qo := by
 simp only [Prod.mk.injEq] at hb; exact eH hf hb.1 hb.2.1 hb.2.2 h
theorem sr {l : List Oper} {y : Code} (h : L prog σ n l.toArray l (Exit.then (y.wp prog Q) Q) E P) : J prog σ n (.seq (.region id l.toArray false) y) Q E P := bb (aJ h)
theorem nk {y : Code} (h : J prog σ n y Q E P) : L prog σ n ops [] (Exit.then (y.wp prog Q) Q) E P := bF (aS h)
theorem cf {x y : Code} (hc : ev E c = some (.bool false)) (ht : J prog σ n y Q E P) : J prog σ n (.cond c x y) Q E P := dc hc ht
theorem ct {x y : Code} (hc : ev E c = some (.bool true)) (ht : J prog σ n x Q E P) : J prog σ n (.cond c x y) Q E P := dG hc ht
theorem sk {y : Code} (h : J prog σ n y Q E P) : J prog σ n .skip (Exit.then (y.wp prog Q) Q) E P := ew (aS h)
theorem nr {l : List Oper} {y : Code} (h : L prog σ n l.toArray l (Exit.then (y.wp prog Q) Q) E P) : L prog σ n ops [] (Exit.then ((Code.seq (.region id l.toArray false) y).wp prog Q) Q) E P := nk (sr h)
theorem nf {x y : Code} (hc : ev E c = some (.bool false)) (ht : J prog σ n y Q E P) : L prog σ n ops [] (Exit.then ((Code.cond c x y).wp prog Q) Q) E P := nk (cf hc ht)
theorem nt {x y : Code} (hc : ev E c = some (.bool true)) (ht : J prog σ n x Q E P) : L prog σ n ops [] (Exit.then ((Code.cond c x y).wp prog Q) Q) E P := nk (ct hc ht)
theorem r0 (h : (fn.results, v) = (#[], Value.tuple #[])) (hp : Ent P (aa (Qo) (F))) : K σ n (bodyPost prog fn (bd σ (fun _ : Unit => True) (fun _ => v) (fun _ => Qo) F)) .ret E P := by
 simp only [Prod.mk.injEq] at h; exact kZ h.1 () trivial h.2 hp
theorem z0 (h : (fn.results, v) = (#[], Value.tuple #[])) (hp : Ent P (aa (Qo) (F))) : K σ n (bodyPost prog fn (bd σ (fun _ : Unit => True) (fun _ => v) (fun _ => Qo) F)) .normal E P := by
 simp only [Prod.mk.injEq] at h; exact eG h.1 () trivial h.2 hp
theorem r1 {t : Tmp} (h : (fn.results, Env.get E t) = (#[.tmp t], some v)) (hp : Ent P (aa (Qo) (F))) : K σ n (bodyPost prog fn (bd σ (fun _ : Unit => True) (fun _ => v) (fun _ => Qo) F)) .ret E P := by
 simp only [Prod.mk.injEq] at h; exact aD h.1 h.2 () trivial rfl hp
theorem r2 {t u : Tmp} {v' : Value} (h : (fn.results, Env.get E t, Env.get E u) = (#[.tmp t, .tmp u], some v, some v')) (hp : Ent P (aa (Qo) (F))) : K σ n (bodyPost prog fn (bd σ (fun _ : Unit => True) (fun _ => .tuple #[v, v']) (fun _ => Qo) F)) .ret E P := by
 simp only [Prod.mk.injEq] at h; exact cH h.1 h.2.1 h.2.2 () trivial rfl hp
def tv : BinOp -> Int -> Int -> Option Value
 | .eql, a, b => match decide (a = b) with | true => some (.bool true) | false => some (.bool false)
 | .neq, a, b => match decide (a = b) with | true => some (.bool false) | false => some (.bool true)
 | .lss, a, b => match decide (a < b) with | true => some (.bool true) | false => some (.bool false)
 | .leq, a, b => match decide (a <= b) with | true => some (.bool true) | false => some (.bool false)
 | .gtr, a, b => match decide (b < a) with | true => some (.bool true) | false => some (.bool false)
 | .geq, a, b => match decide (b <= a) with | true => some (.bool true) | false => some (.bool false)
 | _, _, _ => none
def e1 (E : Env) : Op -> Option Value
 | .move x => ev E x
 | .assign x => ev E x
 | .nilCheck x => match ev E x with | some (.pointer (some p)) => some (.pointer (some p)) | _ => none
 | .pick x y z => match ev E x with | some (.bool true) => ev E y | some (.bool false) => ev E z | _ => none
 | .extract x i => match ev E x with | some (.tuple vs) => vs.toList[i]? | _ => none
 | .unOp .not _ x => match ev E x with | some (.bool true) => some (.bool false) | some (.bool false) => some (.bool true) | _ => none
 | .binOp op _ x y _ => match ev E x, ev E y with
  | some (.int k a), some (.int k' b) => match decide (k = k') with | true => tv op a b | false => none
  | _, _ => none
 | _ => none
theorem iP {op : BinOp} {k : IntKind} {b : Int} (h : tv op a b = some v) : vi op k a b = some v := by
 cases op <;> simp only [tv, reduceCtorEq] at h <;> (split at h <;> rename_i hd <;> simp only [Option.some.injEq] at h <;> subst h <;> simp_all [vi])
theorem dE {d : Option Tmp} {ty : TypeId} {pos : String} {aft : Array Edge} {g : Option (Nat × Bool)} (h : e1 E op = some v) : OpV prog σ n E P ⟨d, op, ty, pos, aft, g⟩ v := by
 unfold e1 at h
 split at h
 ·exact ao h
 ·exact aH h
 ·split at h
  ·rename_i p hp; simp only [Option.some.injEq] at h; subst h; exact eF hp
  ·cases h
 ·split at h
  ·rename_i hp; exact xf (p := true) hp h
  ·rename_i hp; exact xf (p := false) hp h
  ·cases h
 ·split at h
  ·rename_i vs hp; exact ap hp (by rw [<- Array.getElem?_toList]; exact h)
  ·cases h
 ·split at h
  ·rename_i hp; simp only [Option.some.injEq] at h; subst h; exact kP (p := true) hp rfl
  ·rename_i hp; simp only [Option.some.injEq] at h; subst h; exact kP (p := false) hp rfl
  ·cases h
 ·split at h
  ·rename_i hx hy
   split at h
   ·rename_i hd; have := of_decide_eq_true hd; subst this; exact ei hx hy (iP h)
   ·cases h
  ·cases h
 ·cases h
section
variable {d1 d2 d3 d4 d5 d6 : Nat} {o1 o2 o3 o4 o5 o6 : Op} {t1 t2 t3 t4 t5 t6 : TypeId} {p1 p2 p3 p4 p5 p6 : String} {f1 f2 f3 f4 f5 f6 : Array Edge} {v1 v2 v3 v4 v5 v6 : Value}
theorem ea (h : (e1 E o1, Nat.blt d1 n) = (some v1, true)) (k : L prog σ n ops rest Q ((d1, v1) :: E) P) : L prog σ n ops (⟨some d1, o1, t1, p1, f1, none⟩ :: rest) Q E P := by
 simp only [Prod.mk.injEq] at h; exact aT (dE h.1) h.2 k
theorem eb (h : (e1 E o1, Nat.blt d1 n, e1 ((d1, v1) :: E) o2, Nat.blt d2 n) = (some v1, true, some v2, true)) (k : L prog σ n ops rest Q ((d2, v2) :: (d1, v1) :: E) P) : L prog σ n ops (⟨some d1, o1, t1, p1, f1, none⟩ :: ⟨some d2, o2, t2, p2, f2, none⟩ :: rest) Q E P := by
 simp only [Prod.mk.injEq] at h; exact aT (dE h.1) h.2.1 (aT (dE h.2.2.1) h.2.2.2 k)
theorem ec (h : (e1 E o1, Nat.blt d1 n, e1 ((d1, v1) :: E) o2, Nat.blt d2 n, e1 ((d2, v2) :: (d1, v1) :: E) o3, Nat.blt d3 n) = (some v1, true, some v2, true, some v3, true)) (k : L prog σ n ops rest Q ((d3, v3) :: (d2, v2) :: (d1, v1) :: E) P) :
  L prog σ n ops (⟨some d1, o1, t1, p1, f1, none⟩ :: ⟨some d2, o2, t2, p2, f2, none⟩ :: ⟨some d3, o3, t3, p3, f3, none⟩ :: rest) Q E P := by
 simp only [Prod.mk.injEq] at h; exact aT (dE h.1) h.2.1 (aT (dE h.2.2.1) h.2.2.2.1 (aT (dE h.2.2.2.2.1) h.2.2.2.2.2 k))
theorem ed (h : (e1 E o1, Nat.blt d1 n, e1 ((d1, v1) :: E) o2, Nat.blt d2 n, e1 ((d2, v2) :: (d1, v1) :: E) o3, Nat.blt d3 n, e1 ((d3, v3) :: (d2, v2) :: (d1, v1) :: E) o4, Nat.blt d4 n) = (some v1, true, some v2, true, some v3, true, some v4, true))
  (k : L prog σ n ops rest Q ((d4, v4) :: (d3, v3) :: (d2, v2) :: (d1, v1) :: E) P) :
  L prog σ n ops (⟨some d1, o1, t1, p1, f1, none⟩ :: ⟨some d2, o2, t2, p2, f2, none⟩ :: ⟨some d3, o3, t3, p3, f3, none⟩ :: ⟨some d4, o4, t4, p4, f4, none⟩ :: rest) Q E P := by
 simp only [Prod.mk.injEq] at h; exact aT (dE h.1) h.2.1 (aT (dE h.2.2.1) h.2.2.2.1 (aT (dE h.2.2.2.2.1) h.2.2.2.2.2.1 (aT (dE h.2.2.2.2.2.2.1) h.2.2.2.2.2.2.2 k)))
theorem qa (h : (e1 E o1, Nat.blt d1 n) = (some v1, true)) (k : QL prog σ n ops rest Qa ((d1, v1) :: E) P) : QL prog σ n ops (⟨some d1, o1, t1, p1, f1, none⟩ :: rest) Qa E P := by
 simp only [Prod.mk.injEq] at h; exact gp (dE h.1) h.2 k
theorem qb (h : (e1 E o1, Nat.blt d1 n, e1 ((d1, v1) :: E) o2, Nat.blt d2 n) = (some v1, true, some v2, true)) (k : QL prog σ n ops rest Qa ((d2, v2) :: (d1, v1) :: E) P) : QL prog σ n ops (⟨some d1, o1, t1, p1, f1, none⟩ :: ⟨some d2, o2, t2, p2, f2, none⟩ :: rest) Qa E P := by
 simp only [Prod.mk.injEq] at h; exact gp (dE h.1) h.2.1 (gp (dE h.2.2.1) h.2.2.2 k)
end
section
variable {d : Nat} {ty : TypeId} {pos : String} {aft : Array Edge} {g : Option (Nat × Bool)} {x y z : Operand} {t t' : TypeId} {k : IntKind} {v u : Value} {a b' : Int}
theorem ib {op : BinOp} (c : Value) (h : (ev E x, ev E y, vi op k a b', Nat.blt d n) = (some (.int k a), some (.int k b'), some c, true)) (r : L prog σ n ops rest Q ((d, c) :: E) P) : L prog σ n ops (⟨some d, .binOp op t x y t', ty, pos, aft, none⟩ :: rest) Q E P := by
 simp only [Prod.mk.injEq] at h; exact aT (ei h.1 h.2.1 h.2.2.1) h.2.2.2 r
theorem fa {o : Nat} (q : Nat) [Fld prog t f off m] (h : (ev E x, o + off, Nat.blt d n) = (some (.pointer (some (ad b o))), q, true)) (r : L prog σ n ops rest Q ((d, Pt b q) :: E) P) : L prog σ n ops (⟨some d, .fieldAddr t x f, ty, pos, aft, none⟩ :: rest) Q E P := by
 simp only [Prod.mk.injEq] at h; exact aT (i9 q h.1 h.2.1) h.2.2 r
theorem qf {o : Nat} (q : Nat) [Fld prog t f off m] (h : (ev E x, o + off, Nat.blt d n) = (some (.pointer (some (ad b o))), q, true)) (r : QL prog σ n ops rest Qa ((d, Pt b q) :: E) P) : QL prog σ n ops (⟨some d, .fieldAddr t x f, ty, pos, aft, none⟩ :: rest) Qa E P := by
 simp only [Prod.mk.injEq] at h; exact gp (i9 q h.1 h.2.1) h.2.2 r
theorem ld {o : Nat} (h : (ev E x, Nat.blt d n) = (some (.pointer (some (ad b o))), true)) [One prog t] [Look P b l te R] (hv : l[o]? = some v) (r : L prog σ n ops rest Q ((d, v) :: E) P) : L prog σ n ops (⟨some d, .load t x, ty, pos, aft, none⟩ :: rest) Q E P := by
 simp only [Prod.mk.injEq] at h; exact aT (ar h.1 (aC hv)) h.2 r
theorem ql {o : Nat} (h : (ev E x, Nat.blt d n) = (some (.pointer (some (ad b o))), true)) [One prog t] [Look P b l te R] (hv : l[o]? = some v) (r : QL prog σ n ops rest Qa ((d, v) :: E) P) : QL prog σ n ops (⟨some d, .load t x, ty, pos, aft, none⟩ :: rest) Qa E P := by
 simp only [Prod.mk.injEq] at h; exact gp (ar h.1 (aC hv)) h.2 r
theorem lf {d2 : Nat} {ty2 : TypeId} {pos2 : String} {aft2 : Array Edge} {o : Nat} (q : Nat) [Fld prog t' f off m] (h : (ev E x, o + off, Nat.blt d n, Nat.blt d2 n) = (some (.pointer (some (ad b o))), q, true, true)) [One prog t] [Look P b l te R] (hv : l[q]? = some v)
  (r : L prog σ n ops rest Q ((d2, v) :: (d, Pt b q) :: E) P) : L prog σ n ops (⟨some d, .fieldAddr t' x f, ty, pos, aft, none⟩ :: ⟨some d2, .load t (.tmp d), ty2, pos2, aft2, none⟩ :: rest) Q E P := by
 simp only [Prod.mk.injEq] at h
 exact aT (i9 q h.1 h.2.1) h.2.2.1 (aT (ar (b := b) (o := q) (by simp [ev, Env.get]) (aC hv)) h.2.2.2 r)
theorem ls {o : Nat} (h : (ev E x, Nat.blt d n) = (some (.pointer (some (ad b o))), true)) [Agg prog t m] [Look P b l te R] [CutL l o m vs] (r : L prog σ n ops rest Q ((d, .agg vs.toArray) :: E) P) : L prog σ n ops (⟨some d, .load t x, ty, pos, aft, none⟩ :: rest) Q E P := by
 simp only [Prod.mk.injEq] at h; exact aT (ax h.1) h.2 r
theorem ll {A : Option Addr} (h : (ev E x, Nat.blt d n) = (some (.slice A len cap), true)) [Slc prog t e m] (r : L prog σ n ops rest Q ((d, .int .i64 len) :: E) P) : L prog σ n ops (⟨some d, .call ⟨.builtin .len, #[x], #[t]⟩, ty, pos, aft, none⟩ :: rest) Q E P := by
 simp only [Prod.mk.injEq] at h; exact aT (bC h.1) h.2 r
theorem ep (q : Bool) (h : (ev E x, ev E y, p.isNone, Nat.blt d n) = (some (.pointer p), some (.pointer none), q, true)) [PtrT prog t] (r : L prog σ n ops rest Q ((d, .bool q) :: E) P) : L prog σ n ops (⟨some d, .binOp .eql t x y t', ty, pos, aft, none⟩ :: rest) Q E P := by
 simp only [Prod.mk.injEq] at h; exact aT (Ck h.1 h.2.1 h.2.2.1) h.2.2.2 r
theorem np (q : Bool) (h : (ev E x, ev E y, p.isSome, Nat.blt d n) = (some (.pointer p), some (.pointer none), q, true)) [PtrT prog t] (r : L prog σ n ops rest Q ((d, .bool q) :: E) P) : L prog σ n ops (⟨some d, .binOp .neq t x y t', ty, pos, aft, none⟩ :: rest) Q E P := by
 simp only [Prod.mk.injEq] at h; exact aT (Ci h.1 h.2.1 h.2.2.1) h.2.2.2 r
theorem ix {o : Nat} (q : Nat) (hx : (ev E x, ev E y) = (some (.slice (some (ad b o)) len cap), some (.int k a))) [Slc prog t e m] (h0 : (decide (0 <= a /\ a < len), o + a.toNat * m, Nat.blt d n) = (true, q, true)) (r : L prog σ n ops rest Q ((d, Pt b q) :: E) P) :
  L prog σ n ops (⟨some d, .indexAddr t x y, ty, pos, aft, none⟩ :: rest) Q E P := by
 simp only [Prod.mk.injEq] at hx h0; exact aT (dx q hx.1 hx.2 h0.1 h0.2.1) h0.2.2 r
theorem go {d : Option Nat} {b : Bool} (h : ((ops[j]?).bind (·.dst), Env.get E s, b == want) = (some s, some (.bool b), true)) (r : L prog σ n ops (⟨d, op, ty, pos, aft, none⟩ :: rest) Q E P) : L prog σ n ops (⟨d, op, ty, pos, aft, some (j, want)⟩ :: rest) Q E P := by
 simp only [Prod.mk.injEq] at h; exact bK h.1 h.2.1 h.2.2 r
theorem gs {b : Bool} (h : ((ops[j]?).bind (·.dst), Env.get E s, b == want, Nat.blt d n) = (some s, some (.bool b), false, true)) (r : L prog σ n ops rest Q ((d, undef) :: E) P) : L prog σ n ops (⟨some d, op, ty, pos, aft, some (j, want)⟩ :: rest) Q E P := by
 simp only [Prod.mk.injEq] at h; exact mb h.1 h.2.1 h.2.2.1 h.2.2.2 r
theorem qo {d : Option Nat} {b : Bool} (h : ((ops[j]?).bind (·.dst), Env.get E s, b == want) = (some s, some (.bool b), true)) (r : QL prog σ n ops (⟨d, op, ty, pos, aft, none⟩ :: rest) Qa E P) : QL prog σ n ops (⟨d, op, ty, pos, aft, some (j, want)⟩ :: rest) Qa E P := by
 simp only [Prod.mk.injEq] at h; exact df h.1 h.2.1 h.2.2 r
theorem qs {b : Bool} (h : ((ops[j]?).bind (·.dst), Env.get E s, b == want, Nat.blt d n) = (some s, some (.bool b), false, true)) (r : QL prog σ n ops rest Qa ((d, undef) :: E) P) : QL prog σ n ops (⟨some d, op, ty, pos, aft, some (j, want)⟩ :: rest) Qa E P := by
 simp only [Prod.mk.injEq] at h; exact yu h.1 h.2.1 h.2.2.1 h.2.2.2 r
theorem so {o : Nat} {l' : List Value} (hx : (ev E x, ev E y) = (some (.pointer (some (ad b o))), some v)) [Siz prog t m] [Cel v vs] (hl : (vs.length, vs.all fun u => u.oneCell') = (m, true)) [Look P b l te R] [Spl l o vs l'] (r : L prog σ n ops rest Q E (aa (am b l' te) (R))) :
  L prog σ n ops (⟨none, .store t x y, ty, pos, aft, none⟩ :: rest) Q E P := by
 simp only [Prod.mk.injEq] at hx hl; exact fp rfl (aI hx.1 hx.2 hl.1 (List.all_eq_true.1 hl.2)) (fun _ _ => r)
theorem bx (h : (ev E x, Nat.blt d n) = (some v, true)) [Cel v l] (r : ∀ b, L prog σ n ops rest Q ((d, Pt b 0) :: E) (aa (am b l t) (P))) : L prog σ n ops (⟨some d, .box t x, ty, pos, aft, none⟩ :: rest) Q E P := by
 simp only [Prod.mk.injEq] at h; exact fp rfl (aV h.1 h.2) (fun b _ => r b)
theorem al {zs : List Value} (h : Nat.blt d n = true) [Zer prog t zs] (r : ∀ b, L prog σ n ops rest Q ((d, Pt b 0) :: E) (aa (am b zs t) (P))) : L prog σ n ops (⟨some d, .alloc t, ty, pos, aft, none⟩ :: rest) Q E P := fp rfl (bq h) (fun b _ => r b)
theorem cu {f : FuncId} (hs : FSpec prog f vs.toArray P0 (fun _ : Unit => True) (fun _ => v) (fun _ => Qo)) (h : (evl E args.toList, Nat.blt d n) = (some vs, true)) [Fun prog f] [Take P P0 R]
  (r : L prog σ n ops rest Q ((d, v) :: E) (aa (Qo) (R))) : L prog σ n ops (⟨some d, .call ⟨.value (.func f), args, tys⟩, ty, pos, aft, none⟩ :: rest) Q E P := by
 simp only [Prod.mk.injEq] at h; exact fp rfl (ai hs h.1 rfl h.2) (fun _ _ => r)
end
section
variable {S0 S R0 : ab} {B : List Nat} {fuel : Nat} {listed : Array Bool} {d : Nat} {op : Op} {x : Operand} {t : TypeId} {ty : TypeId} {pos : String} {aft : Array Edge} {v : Value}
theorem ps (i : Nat) [NP Q] [hS : Take P S R] [h0 : Take P S0 R0] (hi : ops[i]? = some ⟨some d, op, ty, pos, aft, none⟩) (h : OpV prog σ n E S0 ⟨some d, op, ty, pos, aft, none⟩ v)
 (k : Rg prog σ n ops Q S0 S B fuel (listed.setIfInBounds i true) ((d, v) :: E) P) (hk : zg ops B listed i = true := by kernel_rfl) (hd : Nat.blt d n = true := by rfl) : Rg prog σ n ops Q S0 S B (fuel + 1) listed E P := AK i hi hk h hd k
theorem pe (i : Nat) [NP Q] [hS : Take P S R] [h0 : Take P S0 R0] (hi : ops[i]? = some ⟨some d, op, ty, pos, aft, none⟩) (h : (e1 E op, Nat.blt d n) = (some v, true))
  (k : Rg prog σ n ops Q S0 S B fuel (listed.setIfInBounds i true) ((d, v) :: E) P) (hk : zg ops B listed i = true := by kernel_rfl) : Rg prog σ n ops Q S0 S B (fuel + 1) listed E P := by
 simp only [Prod.mk.injEq] at h; exact AK i hi hk (dE h.1) h.2 k
theorem pf (i : Nat) {o : Nat} (q : Nat) [NP Q] [hS : Take P S R] [h0 : Take P S0 R0] (hi : ops[i]? = some ⟨some d, .fieldAddr t x f, ty, pos, aft, none⟩) [Fld prog t f off m] (h : (ev E x, o + off, Nat.blt d n) = (some (.pointer (some (ad b o))), q, true))
  (k : Rg prog σ n ops Q S0 S B fuel (listed.setIfInBounds i true) ((d, Pt b q) :: E) P) (hk : zg ops B listed i = true := by kernel_rfl) : Rg prog σ n ops Q S0 S B (fuel + 1) listed E P := by
 simp only [Prod.mk.injEq] at h; exact AK i hi hk (i9 q h.1 h.2.1) h.2.2 k
theorem pl (i : Nat) {o : Nat} {R1 : ab} [NP Q] [hS : Take P S R] [h0 : Take P S0 R0] (hi : ops[i]? = some ⟨some d, .load t x, ty, pos, aft, none⟩) [One prog t] (h : (ev E x, Nat.blt d n) = (some (.pointer (some (ad b o))), true)) [Look S0 b l te R1] (hv : l[o]? = some v)
  (k : Rg prog σ n ops Q S0 S B fuel (listed.setIfInBounds i true) ((d, v) :: E) P) (hk : zg ops B listed i = true := by kernel_rfl) : Rg prog σ n ops Q S0 S B (fuel + 1) listed E P := by
 simp only [Prod.mk.injEq] at h; exact AK i hi hk (ar h.1 (aC hv)) h.2 k
theorem pn (i : Nat) {o : Oper} {E' : X -> Env} {P' R' R2 : X -> ab} (hi : (ops[i]?, o.guard) = (some o, none)) (h : OpX prog σ n E P o φ E' P') [hS0 : ∀ x, Take (P' x) S0 (R' x)] [hS : ∀ x, Take (P' x) S (R2 x)]
  (k : ∀ x, φ x -> Rg prog σ n ops Q S0 S B fuel (listed.setIfInBounds i true) (E' x) (P' x)) (hk : (Region.ready .any ops listed == [i]) = true := by kernel_rfl) : Rg prog σ n ops Q S0 S B (fuel + 1) listed E P := by
 simp only [Prod.mk.injEq] at hi; exact IU i hi.1 hi.2 hk h k
theorem dn (h : K σ n Q .normal E P) (hr : Region.ready .any ops listed = [] := by kernel_rfl) : Rg prog σ n ops Q S0 S B fuel listed E P := DG hr h
end
theorem up : ∀ {E' E : Env}, (E'.map fun p => Env.get E p.1) = (E'.map fun p => some p.2) -> Sub E' E
 | [], _, _ => trivial
 | (i, v) :: l, E, h => by
  simp only [List.map_cons, List.cons.injEq] at h
  exact ⟨h.1, up h.2⟩
theorem kc {E' : X -> Env} {P' : X -> ab} {Q' : Exit -> Act -> World -> Prop} (i : X) (hs : ((E' i).map fun p => Env.get E p.1) = ((E' i).map fun p => some p.2)) (hp : Ent P (P' i)) :
 K σ n (Exit.then (fun a w => ∃ i, True /\ Agree n (E' i) a /\ Sat σ w (P' i)) Q') .normal E P := eM (φ := fun _ => True) i trivial (up hs) hp
theorem r.{u} {α : Sort u} {a : α} : a = a := rfl
abbrev js := @bb
abbrev jg := @aJ
abbrev jb := @dB
abbrev jr := @me
abbrev jx := @cx
abbrev jk := @ew
abbrev kb := @eg
abbrev kh := @dF
abbrev ke := @cD
abbrev kt := @aS
abbrev kd := @dD
abbrev kq := @fd
abbrev ku := @qT
abbrev ju := @j3
abbrev ln := @bF
abbrev lv := @aT
abbrev lx := @fp
abbrev qv := @gp
abbrev qn := @tX
theorem jl {c : Code} (h : JU prog σ n c (Exit.inBlock id Q) E P) : J prog σ n (.block id (.loop c)) Q E P := dB (qV h)
theorem nj {x y : Code} (h : J prog σ n x (Exit.then (y.wp prog Q) Q) E P) : L prog σ n ops [] (Exit.then ((Code.seq x y).wp prog Q) Q) E P := nk (bb h)
theorem kr {c : Code} (h : JU prog σ n c Q E P) : L prog σ n ops [] (Exit.then (kX prog c Q) Q) E P := bF (qT h)
theorem cY {y : Code} (h : J prog σ n y Q E P) : J prog σ n .skip (Exit.inBlock id (Exit.then (y.wp prog Q) Q)) E P := ew (eg (aS h))
section
variable {id d d1 d2 : Nat} {o o1 o2 : Op} {ty ty1 ty2 : TypeId} {pos pos1 pos2 : String} {aft aft1 aft2 : Array Edge} {v v1 v2 : Value} {c : Operand} {x0 y z : Code}
theorem sa (h : (e1 E o, Nat.blt d n) = (some v, true)) (k : L prog σ n (⟨some d, o, ty, pos, aft, none⟩ :: rest).toArray rest (Exit.then (y.wp prog Q) Q) ((d, v) :: E) P) : J prog σ n (.seq (.region id (⟨some d, o, ty, pos, aft, none⟩ :: rest).toArray false) y) Q E P := sr (ea h k)
theorem sb (h : (e1 E o1, Nat.blt d1 n, e1 ((d1, v1) :: E) o2, Nat.blt d2 n) = (some v1, true, some v2, true)) (k : L prog σ n (⟨some d1, o1, ty1, pos1, aft1, none⟩ :: ⟨some d2, o2, ty2, pos2, aft2, none⟩ :: rest).toArray rest (Exit.then (y.wp prog Q) Q) ((d2, v2) :: (d1, v1) :: E) P) :
 J prog σ n (.seq (.region id (⟨some d1, o1, ty1, pos1, aft1, none⟩ :: ⟨some d2, o2, ty2, pos2, aft2, none⟩ :: rest).toArray false) y) Q E P := sr (eb h k)
theorem an (h : (e1 E o, Nat.blt d n) = (some v, true)) (k : J prog σ n y Q ((d, v) :: E) P) : L prog σ n ops [⟨some d, o, ty, pos, aft, none⟩] (Exit.then (y.wp prog Q) Q) E P := ea h (nk k)
theorem bf {x : Code} (h : (e1 E o1, Nat.blt d1 n, e1 ((d1, v1) :: E) o2, Nat.blt d2 n, ev ((d2, v2) :: (d1, v1) :: E) c) = (some v1, true, some v2, true, some (.bool false))) (k : J prog σ n y Q ((d2, v2) :: (d1, v1) :: E) P) :
  L prog σ n ops [⟨some d1, o1, ty1, pos1, aft1, none⟩, ⟨some d2, o2, ty2, pos2, aft2, none⟩] (Exit.then ((Code.cond c x y).wp prog Q) Q) E P := by
 simp only [Prod.mk.injEq] at h; exact aT (dE h.1) h.2.1 (aT (dE h.2.2.1) h.2.2.2.1 (nf h.2.2.2.2 k))
theorem aE (h : (e1 E o, Nat.blt d n) = (some v, true)) (k : J prog σ n y Q ((d, v) :: E) P) : J prog σ n (.seq (.region id [⟨some d, o, ty, pos, aft, none⟩].toArray false) y) Q E P := sr (an h k)
theorem ut (h : (e1 E o, Nat.blt d n, ev ((d, v) :: E) c) = (some v, true, some (.bool true))) (k : J prog σ n z (Exit.then (kX prog (.seq (.region id [⟨some d, o, ty, pos, aft, none⟩].toArray false) (.seq (.cond c .skip x0) z)) Q) Q) ((d, v) :: E) P) :
  JU prog σ n (.seq (.region id [⟨some d, o, ty, pos, aft, none⟩].toArray false) (.seq (.cond c .skip x0) z)) Q E P := by
 simp only [Prod.mk.injEq] at h; exact j3 (sr (aT (dE h.1) h.2.1 (nk (bb (dG h.2.2 (ew (aS k)))))))
theorem uf {x : Code} (h : (e1 E o, Nat.blt d n, ev ((d, v) :: E) c) = (some v, true, some (.bool false))) (k : K σ n Q .normal ((d, v) :: E) P) :
  JU prog σ n (.seq (.region id [⟨some d, o, ty, pos, aft, none⟩].toArray false) (.seq (.cond c x (.exit b)) z)) (Exit.inBlock b Q) E P := by
 simp only [Prod.mk.injEq] at h; exact j3 (sr (aT (dE h.1) h.2.1 (nk (bb (dc h.2.2 (cx (cD (cD (dF k)))))))))
theorem ni {op : BinOp} {xx yy : Operand} {t t' : TypeId} {kk : IntKind} {b' : Int} {cc : Code} (u : Value) (h : (ev E xx, ev E yy, vi op kk a b', Nat.blt d1 n, e1 ((d1, u) :: E) o2, Nat.blt d2 n) = (some (.int kk a), some (.int kk b'), some u, true, some v2, true))
  (k : JU prog σ n cc Q ((d2, v2) :: (d1, u) :: E) P) : K σ n (Exit.inBlock b (Exit.then ((Code.region id [⟨some d1, .binOp op t xx yy t', ty1, pos1, aft1, none⟩, ⟨some d2, o2, ty2, pos2, aft2, none⟩].toArray false).wp prog (Exit.then (kX prog cc Q) Q)) (Exit.then (kX prog cc Q) Q))) .normal E P := by
 simp only [Prod.mk.injEq] at h; exact eg (aS (aJ (aT (ei h.1 h.2.1 h.2.2.1) h.2.2.2.1 (aT (dE h.2.2.2.2.1) h.2.2.2.2.2 (bF (qT k))))))
end
section
variable {d : Nat} {ty : TypeId} {pos : String} {aft : Array Edge} {v : Value}
theorem cy {f : FuncId} {Qo : X -> ab} (hs : FSpec prog f vs.toArray P0 φ val Qo) (h : (evl E args.toList, Nat.blt d n) = (some vs, true)) [Fun prog f] [Take P P0 R]
  (k : ∀ x, L prog σ n ops rest Q ((d, val x) :: E) (aa (Qo x) (R))) : L prog σ n ops (⟨some d, .call ⟨.value (.func f), args, tys⟩, ty, pos, aft, none⟩ :: rest) Q E P := by
 simp only [Prod.mk.injEq] at h; exact fp rfl (ai hs h.1 rfl h.2) (fun x _ => k x)
end
section
variable {d f off m b o : Nat} {t : TypeId} {x : Operand} {ty : TypeId} {pos : String} {aft : Array Edge}
theorem fz [Fld prog t f off m] (h : (ev E x, Nat.blt d n) = (some (.pointer (some (ad b 0))), true)) (k : L prog σ n ops rest Q ((d, .pointer (some (ad b off))) :: E) P) : L prog σ n ops (⟨some d, .fieldAddr t x f, ty, pos, aft, none⟩ :: rest) Q E P := by
 simp only [Prod.mk.injEq] at h; exact aT (aj h.1) h.2 k
theorem fy [Fld prog t f off m] (h : (ev E x, Nat.blt d n) = (some (.pointer (some (ad b o))), true)) (k : L prog σ n ops rest Q ((d, .pointer (some (ad b (o + off)))) :: E) P) : L prog σ n ops (⟨some d, .fieldAddr t x f, ty, pos, aft, none⟩ :: rest) Q E P := by
 simp only [Prod.mk.injEq] at h; exact aT (gD h.1) h.2 k
theorem qz [Fld prog t f off m] (h : (ev E x, Nat.blt d n) = (some (.pointer (some (ad b 0))), true)) (k : QL prog σ n ops rest Qa ((d, .pointer (some (ad b off))) :: E) P) : QL prog σ n ops (⟨some d, .fieldAddr t x f, ty, pos, aft, none⟩ :: rest) Qa E P := by
 simp only [Prod.mk.injEq] at h; exact gp (aj h.1) h.2 k
theorem qy [Fld prog t f off m] (h : (ev E x, Nat.blt d n) = (some (.pointer (some (ad b o))), true)) (k : QL prog σ n ops rest Qa ((d, .pointer (some (ad b (o + off)))) :: E) P) : QL prog σ n ops (⟨some d, .fieldAddr t x f, ty, pos, aft, none⟩ :: rest) Qa E P := by
 simp only [Prod.mk.injEq] at h; exact gp (gD h.1) h.2 k
end
end
section
variable {dst : Option Nat} {o : Op} {j s : Nat} {want b : Bool}
variable {prog : Program} {σ : World} {n : Nat} {Q : Exit -> Act -> World -> Prop} {E E' : Env} {P R : ab} {ops : Array Oper} {rest : List Oper} {Qa : Act -> Prop} {d : Nat} {op : BinOp} {ty t t' : TypeId} {pos : String} {aft : Array Edge} {x y : Operand} {k : IntKind} {a b' : Int}
def BF : BinOp -> Bool
 | .lss | .gtr | .leq | .geq | .eql | .neq => true
 | _ => false
def cQ : BinOp -> Int -> Int -> Prop
 | .lss, a, b => a < b
 | .gtr, a, b => b < a
 | .leq, a, b => a <= b
 | .geq, a, b => b <= a
 | .eql, a, b => a = b
 | .neq, a, b => ¬ a = b
 | _, _, _ => False
theorem F7 (h : BF op = true) (hn : cQ op a b') : tv op a b' = some (.bool true) := by
 cases op <;> simp only [BF, reduceCtorEq] at h <;> simp only [cQ] at hn <;> simp [tv, hn]
theorem F8 (h : BF op = true) (hn : ¬ cQ op a b') : tv op a b' = some (.bool false) := by
 cases op <;> simp only [BF, reduceCtorEq] at h <;> simp only [cQ, Classical.not_not] at hn <;> simp [tv, hn]
theorem eR (h : (BF op, ev E x, ev E y, Nat.blt d n) = (true, some (.int k a), some (.int k b'), true)) (r : L prog σ n ops rest Q ((d, Tt) :: E) P) (hn : cQ op a b' := by first | (simp only [cQ] <;> omega) | simp [cQ]) : L prog σ n ops (⟨some d, .binOp op t x y t', ty, pos, aft, none⟩ :: rest) Q E P := by
 simp only [Prod.mk.injEq] at h; exact aT (ei h.2.1 h.2.2.1 (iP (F7 h.1 hn))) h.2.2.2 r
theorem bJ (h : (BF op, ev E x, ev E y, Nat.blt d n) = (true, some (.int k a), some (.int k b'), true)) (r : L prog σ n ops rest Q ((d, Ff) :: E) P) (hn : ¬ cQ op a b' := by first | (simp only [cQ] <;> omega) | simp [cQ]) : L prog σ n ops (⟨some d, .binOp op t x y t', ty, pos, aft, none⟩ :: rest) Q E P := by
 simp only [Prod.mk.injEq] at h; exact aT (ei h.2.1 h.2.2.1 (iP (F8 h.1 hn))) h.2.2.2 r
theorem Cd (h : (BF op, ev E x, ev E y, Nat.blt d n) = (true, some (.int k a), some (.int k b'), true)) (r : QL prog σ n ops rest Qa ((d, Tt) :: E) P) (hn : cQ op a b' := by first | (simp only [cQ] <;> omega) | simp [cQ]) : QL prog σ n ops (⟨some d, .binOp op t x y t', ty, pos, aft, none⟩ :: rest) Qa E P := by
 simp only [Prod.mk.injEq] at h; exact gp (ei h.2.1 h.2.2.1 (iP (F7 h.1 hn))) h.2.2.2 r
theorem s5 (h : (BF op, ev E x, ev E y, Nat.blt d n) = (true, some (.int k a), some (.int k b'), true)) (r : QL prog σ n ops rest Qa ((d, Ff) :: E) P) (hn : ¬ cQ op a b' := by first | (simp only [cQ] <;> omega) | simp [cQ]) : QL prog σ n ops (⟨some d, .binOp op t x y t', ty, pos, aft, none⟩ :: rest) Qa E P := by
 simp only [Prod.mk.injEq] at h; exact gp (ei h.2.1 h.2.2.1 (iP (F8 h.1 hn))) h.2.2.2 r
theorem gE (h : (ev E x, ev E y, Nat.blt d n) = (some (.int .i64 a), some (.int .i64 b'), true)) (r : L prog σ n ops rest Q ((d, .int .i64 (a + b')) :: E) P) (hn : -9223372036854775808 <= a + b' /\ a + b' <= 9223372036854775807 := by omega) :
  L prog σ n ops (⟨some d, .binOp .add t x y t', ty, pos, aft, none⟩ :: rest) Q E P := by
 simp only [Prod.mk.injEq] at h; exact aT (aQ h.1 h.2.1 hn) h.2.2 r
theorem ww (h : (ev E x, ev E y, Nat.blt d n) = (some (.int .i64 a), some (.int .i64 b'), true)) (r : QL prog σ n ops rest Qa ((d, .int .i64 (a + b')) :: E) P) (hn : -9223372036854775808 <= a + b' /\ a + b' <= 9223372036854775807 := by omega) :
  QL prog σ n ops (⟨some d, .binOp .add t x y t', ty, pos, aft, none⟩ :: rest) Qa E P := by
 simp only [Prod.mk.injEq] at h; exact gp (aQ h.1 h.2.1 hn) h.2.2 r
theorem dU {m b o : Nat} {v : Value} {l l' vs : List Value} {te : TypeId} {g : Option (Nat × Bool)} [Siz prog t m] (hx : ev E x = some (.pointer (some (ad b o)))) (hy : ev E y = some v) [Cel v vs] (hl : vs.length = m) [Look P b l te R] [Spl l o vs l'] (h1 : ∀ u ∈ vs, u.oneCell' = true := by simp [Value.oneCell']) :
 OpX prog σ n E P ⟨none, .store t x y, ty, pos, aft, g⟩ (fun _ : Unit => True) (fun _ => E) (fun _ => (aa (am b l' te) (R))) := aI hx hy hl h1
theorem gk (h : ((ops[j]?).bind (·.dst), Env.get E s, b == want) = (some s, some (.bool b), false)) (k : L prog σ n ops rest Q E P) (hd : ∀ i, dst = some i -> Env.get E i = none := by intro _ h; cases h; rfl) : L prog σ n ops (⟨dst, o, ty, pos, aft, some (j, want)⟩ :: rest) Q E P := by
 simp only [Prod.mk.injEq] at h; exact mc h.1 h.2.1 h.2.2 k hd
theorem qk (h : ((ops[j]?).bind (·.dst), Env.get E s, b == want) = (some s, some (.bool b), false)) (k : QL prog σ n ops rest Qa E P) (hd : ∀ i, dst = some i -> Env.get E i = none := by intro _ h; cases h; rfl) : QL prog σ n ops (⟨dst, o, ty, pos, aft, some (j, want)⟩ :: rest) Qa E P := by
 simp only [Prod.mk.injEq] at h; exact qM h.1 h.2.1 h.2.2 k hd
theorem jf {p : Prop} [Decidable p] (h : p) (hj : ((ops[j]?).bind (·.dst), Env.get E s) = (some s, some (.bool (decide p)))) (k : L prog σ n ops rest Q E P) (hd : ∀ i, dst = some i -> Env.get E i = none := by intro _ h; cases h; rfl) : L prog σ n ops (⟨dst, o, ty, pos, aft, some (j, false)⟩ :: rest) Q E P := by
 simp only [Prod.mk.injEq] at hj; exact yL h hj.1 hj.2 k hd
theorem dM {id : Nat} {l : List Oper} {Q : Exit -> Act -> World -> Prop} (hm : prog.follows .mixedOrders = true) (h : QL prog σ n l.toArray l (fun a' => ∀ w', Sat σ w' P -> Q .normal a' w') E P) (hB : Region.lexB .any l.toArray = true := by kernel_rfl) : J prog σ n (.region id l.toArray true) Q E P := A5 hm hB h
end
section
variable {l first captured : List Value} {fx : Operand} {rs : List ResultVar} {R1 : ab}
def sV (n d : Nat) (E : Env) (W : Act -> World -> Prop) : Ending -> World -> Prop := fun e w => ∃ v, e = .returned v /\ ∀ a, Agree n ((d, v) :: E) a -> W a w
variable {prog : Program} {σ : World} {n m d : Nat} {Q : Exit -> Act -> World -> Prop} {E E' : Env} {P R : ab} {ops : Array Oper} {rest : List Oper} {fn : Func} {W : Act -> World -> Prop}
instance : NP (bodyPost prog fn (sV n d E W)) := ⟨fun c a w h => by obtain ⟨_, v, he, _⟩ := h; cases he⟩
theorem CY (h : Nat.ble l.length m = true) : Agree m (dm 0 l) { tmps := l.toArray ++ Array.replicate (m - l.toArray.size) undef, defers := [] } := by
 have h := Nat.le_of_ble_eq_true h
 refine ⟨rfl, by simp; omega, fun i v hi => ?_⟩
 obtain ⟨_, h2⟩ := gj l 0 i v hi
 have h2 : l[i]? = some v := h2
 have := (List.getElem?_eq_some_iff.1 h2).1
 rw [Array.getElem?_append_left (by simpa using this)]
 simpa using h2
variable {ty : TypeId} {pos : String} {aft : Array Edge} {tys : Array TypeId} {args : Array Operand} {f : FuncId} {c : Code} {vs : List Value}
theorem FE [Fun prog f] {Kn : Act -> World -> Prop} {Q' : Exit -> Act -> World -> Prop} (hf : prog.funcs[f]? = some fn)
  (h : (ev E fx, evl E args.toList, first ++ vs ++ captured, Nat.blt d n, fn.body, fn.ntmps, Nat.ble l.length m) = (some (.func (.func f) first.toArray captured.toArray), some vs, l, true, some c, m, true))
  (k : J prog σ m c (bodyPost prog fn (sV n d E W)) (dm 0 l) P) (hK : ∀ a w, W a w -> Kn a w) (a : Act) (w : World) (ha : Agree n E a) (hs : Sat σ w P) : Oper.wp prog ⟨some d, .call ⟨.value fx, args, tys⟩, ty, pos, aft, none⟩ a w Kn Q' := by
 simp only [Prod.mk.injEq] at h
 obtain ⟨h0, h1, h6, h2, h3, h4, h5⟩ := h
 subst h4
 unfold Oper.wp
 rw [nI ha rfl h0 h1 w, Oper.upon_enter, h6]
 refine (calls_of_wp (R := sV n d E W) hf h3 (k _ w (CY h5) hs)).mono ?_
 rintro e w'' ⟨v, rfl, hx⟩
 exact hK _ _ (hx _ (ha.put (Nat.le_of_ble_eq_true h2) _))
theorem gX [Fun prog f] (hf : prog.funcs[f]? = some fn)
  (h : (ev E fx, evl E args.toList, first ++ vs ++ captured, Nat.blt d n, fn.body, fn.ntmps, Nat.ble l.length m) = (some (.func (.func f) first.toArray captured.toArray), some vs, l, true, some c, m, true))
  (k : J prog σ m c (bodyPost prog fn (sV n d E (wpList prog ops Q rest))) (dm 0 l) P) : L prog σ n ops (⟨some d, .call ⟨.value fx, args, tys⟩, ty, pos, aft, none⟩ :: rest) Q E P := fun a w ha hs =>
 wpList_plain rfl fun Kn hK => FE hf h k hK a w ha hs
theorem aW [Fun prog f] (hf : prog.funcs[f]? = some fn) (h : (evl E args.toList, Nat.blt d n, fn.body, fn.ntmps, Nat.ble vs.length m) = (some vs, true, some c, m, true))
  (k : J prog σ m c (bodyPost prog fn (sV n d E (wpList prog ops Q rest))) (dm 0 vs) P) : L prog σ n ops (⟨some d, .call ⟨.value (.func f), args, tys⟩, ty, pos, aft, none⟩ :: rest) Q E P := by
 simp only [Prod.mk.injEq] at h
 exact gX (first := []) (captured := []) (l := vs) hf (by simp only [h, List.nil_append, List.append_nil]; rfl) k
variable {S0 S R0 : ab} {B : List Nat} {fuel : Nat} {listed : Array Bool}
def RW (prog : Program) (σ : World) (ops : Array Oper) (Q : Exit -> Act -> World -> Prop) (S0 S : ab) (B : List Nat) (fuel : Nat) (listed : Array Bool) : Act -> World -> Prop := fun a w =>
 (Sat σ w S0 /\ (dN B listed = true -> Sat σ w S)) /\ kF prog ops Q (fun w => Sat σ w S0) (fun w => Sat σ w S) B fuel listed a w
theorem kS (i : Nat) [Fun prog f] (hi : ops[i]? = some ⟨some d, .call ⟨.value fx, args, tys⟩, ty, pos, aft, none⟩) (hf : prog.funcs[f]? = some fn)
  (h : (ev E fx, evl E args.toList, first ++ vs ++ captured, Nat.blt d n, fn.body, fn.ntmps, Nat.ble l.length m) = (some (.func (.func f) first.toArray captured.toArray), some vs, l, true, some c, m, true))
  (k : J prog σ m c (bodyPost prog fn (sV n d E (RW prog σ ops Q S0 S B fuel (listed.setIfInBounds i true)))) (dm 0 l) P) (hr : (Region.ready .any ops listed == [i]) = true := by kernel_rfl) :
  Rg prog σ n ops Q S0 S B (fuel + 1) listed E P := fun a w ha hs => by
 have hr := eq_of_beq hr
 refine ⟨fun h0 => absurd (hr ▸ h0) (by simp), fun j hj => ?_⟩
 rw [hr] at hj
 obtain rfl : j = i := by simpa using hj
 unfold wpOp
 rw [hi]
 simp only [Region.wanted, if_true]
 exact .inl (FE hf h k (fun _ _ h => h) a w ha hs)
variable {v v1 v2 : Value} {E0 : Env} {t u : Tmp}
def wE : List Value -> Option Value
 | [v] => some v
 | vs => some (.tuple vs.toArray)
theorem zn (hv : wE vs = some v) : zf vs = v := by
 unfold wE at hv
 split at hv
 ·exact Option.some.inj hv
 ·rename_i h; rw [<- Option.some.inj hv]; unfold zf; split
  ·exact absurd rfl (h _)
  ·rfl
theorem Bw {e : Exit} (he : e = .ret \/ e = .normal) (hr : fn.results = rs.toArray) (h : ResL prog E P rs vs) (hv : wE vs = some v) (k : ∀ a w, Agree n ((d, v) :: E0) a -> Sat σ w P -> W a w) : K σ m (bodyPost prog fn (sV n d E0 W)) e E P := fun a w ha hs => by
 have h1 := h.run ha hs
 have e : results fn a.tmps = (do let vs <- fn.results.mapM (oF a); pure (if h : vs.size = 1 then vs[0] else .tuple vs)) := by
  unfold results
  congr 2
 have : a.defers = [] /\ ∃ v, (results fn a.tmps).run prog w = .ok v w /\ sV n d E0 W (.returned v) w := by
  refine ⟨ha.defers, zf vs, ?_, v, by rw [zn hv], fun a ha => k a w ha hs⟩
  rw [e, hr, Sem.run_bind, Array.mapM_eq_mapM_toList, Sem.run_map, h1]
  simp only [Result.andThen_ok, Sem.run_pure]
  rw [<- sX]
 rcases he with rfl | rfl <;> exact this
theorem sT (hr : fn.results = rs.toArray) (h : ResL prog E P rs vs) (hv : wE vs = some v) (k : L prog σ n ops rest Q ((d, v) :: E0) P) : K σ m (bodyPost prog fn (sV n d E0 (wpList prog ops Q rest))) .ret E P := Bw (.inl rfl) hr h hv k
theorem Hf (h : fn.results = #[]) (k : L prog σ n ops rest Q ((d, .tuple #[]) :: E0) P) : K σ m (bodyPost prog fn (sV n d E0 (wpList prog ops Q rest))) .ret E P := Bw (.inl rfl) h .nil rfl k
theorem jA (h : fn.results = #[]) (k : L prog σ n ops rest Q ((d, .tuple #[]) :: E0) P) : K σ m (bodyPost prog fn (sV n d E0 (wpList prog ops Q rest))) .normal E P := Bw (.inr rfl) h .nil rfl k
theorem cX (h : (fn.results, Env.get E t) = (#[.tmp t], some v)) (k : L prog σ n ops rest Q ((d, v) :: E0) P) : K σ m (bodyPost prog fn (sV n d E0 (wpList prog ops Q rest))) .ret E P := by
 simp only [Prod.mk.injEq] at h; exact Bw (.inl rfl) h.1 (.tmp h.2 .nil) rfl k
theorem Iv (h : (fn.results, Env.get E t, Env.get E u) = (#[.tmp t, .tmp u], some v1, some v2)) (k : L prog σ n ops rest Q ((d, .tuple #[v1, v2]) :: E0) P) : K σ m (bodyPost prog fn (sV n d E0 (wpList prog ops Q rest))) .ret E P := by
 simp only [Prod.mk.injEq] at h; exact Bw (.inl rfl) h.1 (.tmp h.2.1 (.tmp h.2.2 .nil)) rfl k
theorem HA {v : Value} {R0 : ab} (hS : Take P S R1) (h0 : Take P S0 R0) (k : Rg prog σ n ops Q S0 S B fuel listed ((d, v) :: E0) P) : ∀ a w, Agree n ((d, v) :: E0) a -> Sat σ w P -> RW prog σ ops Q S0 S B fuel listed a w := fun a w ha hs =>
 ⟨⟨by have hs' := hs; rw [h0.eq] at hs'; exact hs'.left, fun _ => by have hs' := hs; rw [hS.eq] at hs'; exact hs'.left⟩, k a w ha hs⟩
theorem rp [hS : Take P S R1] [h0 : Take P S0 R0] (hr : fn.results = rs.toArray) (h : ResL prog E P rs vs) (hv : wE vs = some v) (k : Rg prog σ n ops Q S0 S B fuel listed ((d, v) :: E0) P) : K σ m (bodyPost prog fn (sV n d E0 (RW prog σ ops Q S0 S B fuel listed))) .ret E P :=
 Bw (.inl rfl) hr h hv (HA hS h0 k)
theorem IX [hS : Take P S R1] [h0 : Take P S0 R0] (h : fn.results = #[]) (k : Rg prog σ n ops Q S0 S B fuel listed ((d, .tuple #[]) :: E0) P) : K σ m (bodyPost prog fn (sV n d E0 (RW prog σ ops Q S0 S B fuel listed))) .normal E P := Bw (.inr rfl) h .nil rfl (HA hS h0 k)
theorem HC [hS : Take P S R1] [h0 : Take P S0 R0] (h : (fn.results, Env.get E t) = (#[.tmp t], some v)) (k : Rg prog σ n ops Q S0 S B fuel listed ((d, v) :: E0) P) : K σ m (bodyPost prog fn (sV n d E0 (RW prog σ ops Q S0 S B fuel listed))) .ret E P := by
 simp only [Prod.mk.injEq] at h; exact Bw (.inl rfl) h.1 (.tmp h.2 .nil) rfl (HA hS h0 k)
end
section
variable {t e B sb c' : Nat} {ty : TypeId} {zs : List Value} {u : Option Addr × Nat} {s : ByteArray}
variable {prog : Program} {σ : World} {n : Nat} {Q : Exit -> Act -> World -> Prop} {E E' : Env} {P P' R F : ab} {ops : Array Oper} {rest : List Oper}
theorem pP {r : ByteArray} {so : Nat} [Slc prog t e 1] [Zer prog e zs] [Byt prog e B] (hzl : zs.length = 1) {w : World} (hs : Sat σ w (aa (OwnB e u s) (P)))
  (hsrc : ∀ j v, (bV r)[j]? = some v -> Rd P sb (so + j) v) (h63 : s.size + r.size <= maxLen) (hB : (s.size + r.size) * B <= 140737488355328) :
  ∃ u' w', (Builtin.append_ #[t, t] ty #[.slice u.1 s.size u.2, .slice (some (ad sb so)) r.size c']).run prog w = .ok (.slice u'.1 (s ++ r).size u'.2) w' /\ Sat σ w' (aa (OwnB e u' (s ++ r)) (P)) := by
 rcases nE hs with h | ⟨b, c, rfl, hc1, hc2, h⟩
 ·obtain ⟨A, c, w', h1, h2⟩ := i3 (prog := prog) (t := t) (ty := ty) (k := r.size) (news := bV r) (y := .slice (some (ad sb so)) r.size c') hzl (by omega) h (.inr ⟨sb, so, c', rfl, fun j v hj σ' w' hw' => hsrc j v hj σ' w' hw'.drop⟩) (by rw [dK, Nat.mul_one]) (jo r) h63 hB
  refine ⟨(A, c), w', by rw [ByteArray.size_append]; exact h1, ?_⟩
  rw [<- dC, <- ByteArray.size_append] at h2
  exact h2.ent (Ent.frame (OwnB.own (x := (A, c))) P)
 ·obtain ⟨ht, i, hi, hsz⟩ := Slc.spec (prog := prog) t e 1
  obtain ⟨i', z, hi', hz, hzc⟩ := Zer.spec (prog := prog) e zs
  obtain rfl : i = i' := Option.some.inj (hi.symm.trans hi')
  obtain ⟨i', hi'', hb⟩ := Byt.spec (prog := prog) e B
  obtain rfl : i = i' := Option.some.inj (hi.symm.trans hi'')
  have hl : (bV r).length = r.size := dK r
  have hls : (bV s).length = s.size := dK s
  have hzsz : z.cells.size = 1 := by rw [<- Array.length_toList, hzc, hzl]
  have hblk := h.blk
  have hrl := eO s c
  have hrs : (bytesRow s c).size = c := by rw [<- Array.length_toList, hrl, List.length_append, hls, List.length_replicate]; omega
  have hnews : ∀ j v, (bV r)[j]? = some v -> w.cell? ((ad sb so).add j) = some v := fun j v hj => by rw [db]; exact hsrc j v hj σ w h.drop
  by_cases hroom : s.size + r.size <= c
  ·have hfc : (Builtin.firstCells 1 r.size (.slice (some (ad sb so)) r.size c')).run prog w = .ok (bV r).toArray w := run_firstCells_some (P := prog) w 1 r.size (ad sb so) r.size c' (bV r) (by rw [hl, Nat.mul_one]) hnews
   have hst := fN prog b s.size e _ (bV r) 0 (bytesRow s c) w hblk (Nat.le_refl _) (by rw [hrs, hl]; omega) (jo r)
   simp only [Nat.add_zero] at hst
   have e2 : ((bytesRow s c).toList.take s.size ++ bV r ++ (bytesRow s c).toList.drop (s.size + (bV r).length)).toArray = bytesRow (s ++ r) c := by
    apply Array.toList_inj.1
    rw [hrl, eO (s ++ r), List.take_left' hls, hl, dC, ByteArray.size_append]
    simp only [List.append_assoc]
    congr 2
    rw [<- List.drop_drop, List.drop_left' hls, List.drop_replicate]
    congr 1
    omega
   rw [e2] at hst
   have hst' : (storeCells ((ad b 0).add (s.size * 1)) (bV r) 0).run prog w = .ok () (w.setRow b (bytesRow (s ++ r) c)) := by
    rw [db, Nat.zero_add, Nat.mul_one]; exact hst
   have hrs' : (bytesRow (s ++ r) c).size = c := by rw [<- Array.length_toList, eO, List.length_append, dK, List.length_replicate, ByteArray.size_append]; omega
   refine ⟨(some (ad b 0), c), w.setRow b (bytesRow (s ++ r) c), ?_, ?_⟩
   ·simp only [Builtin.append_, List.getElem?_toArray, List.getElem?_cons_zero, List.getElem?_cons_succ, Sem.run_bind, ba ht, Result.andThen_ok, bk hi, Sem.run_pure, Builtin.lenOf, hsz, hroom, if_true, hfc, hst', Sem.run_ite, Bool.false_eq_true, if_false, Bool.not_false, ByteArray.size_append]
   ·have h5 : Sat σ (w.setRow b (bytesRow (s ++ r) c)) (aa (SLA.byb b (s ++ r) c e) (P)) := by
     refine h.update (w' := w.setRow b (bytesRow (s ++ r) c)) rfl rfl rfl ?_ (fun k hk => setRow_other w b k _ hk)
     rw [setRow_heap w b _ _ e _ hblk, hrs, hrs']
    exact h5.ent (Ent.frame (OwnB.byb (by rw [ByteArray.size_append]; exact hroom) hc2) P)
  ·have hold : ∀ j u, (bV s)[j]? = some u -> w.cell? ((ad b 0).add j) = some u := fun j u hj => by
    have hjl : j < s.size := by
     rcases Nat.lt_or_ge j s.size with h | h
     ·exact h
     ·rw [List.getElem?_eq_none (by rw [hls]; exact h)] at hj; cases hj
    rw [qt s j hjl] at hj
    cases hj
    rw [db, Nat.zero_add]
    exact pN h hjl
   have hsrc' : Go.Src prog i.size t (.slice (some (ad sb so)) r.size c') r.size (bV r) w := by
    rw [hsz]; exact Go.Src.ofSlice w ht (ad sb so) r.size c' (bV r) (by rw [hl, Nat.mul_one]) hnews (jo r)
   have hr' := run_append_grow_src (P := prog) w t t ty e i z ht hi hz (some (ad b 0)) s.size c (bV s) (by
    have h5 := run_firstCells_some (P := prog) w.drew i.size s.size (ad b 0) s.size c (bV s) (by rw [hls, hsz, Nat.mul_one]) (fun j u hj => by simpa using hold j u hj)
    exact h5) (.slice (some (ad sb so)) r.size c') r.size (bV r) hsrc' (by omega) (by simp only [maxLen] at h63; omega) (growslice_fits (by omega) (by rw [hb]; exact hB))
   have hge := grownCap_ge w (s.size + r.size) c e
   have hle := grownCap_le_maxLen w (s.size + r.size) c e h63
   refine ⟨(some ⟨w.heap.size, 0, none⟩, grownCap w (s.size + r.size) c e), _, by rw [ByteArray.size_append]; exact hr', ?_⟩
   have h2 := h.drop.drew.alloc (.cells ((bV s ++ bV r).toArray ++ Builtin.zeroCells z.cells (grownCap w (s.size + r.size) c e - (s.size + r.size))) e)
   have e1 : ((bV s ++ bV r).toArray ++ Builtin.zeroCells z.cells (grownCap w (s.size + r.size) c e - (s.size + r.size))) = ([] ++ (bV s ++ bV r) ++ (Builtin.zeroCells z.cells (grownCap w (s.size + r.size) c e - (s.size + r.size))).toList).toArray := by
    apply Array.toList_inj.1; simp
   rw [e1] at h2 ⊢
   refine h2.ent (Ent.frame (Ent.trans (Ow.mk (v := .slice (some ⟨w.heap.size, 0, none⟩) (s.size + r.size) (grownCap w (s.size + r.size) c e)) (len := s.size + r.size) (m := 1) (cap := grownCap w (s.size + r.size) c e) rfl hge hle (by rw [List.length_append, hls, hl, Nat.mul_one]) ?_) ?_) P)
   ·rw [Array.length_toList, size_zeroCells, hzsz]
    exact Nat.le_refl _
   ·rw [<- dC, <- ByteArray.size_append]
    exact OwnB.own (x := (some ⟨w.heap.size, 0, none⟩, _))
theorem pX {d : Nat} {x y : Operand} {pos : String} {aft : Array Edge} {g : Option (Nat × Bool)} {k q : Nat} {cells : List Value} {te : TypeId} {R1 : ab} (r : ByteArray) [Slc prog t e 1] [Zer prog e zs] [Byt prog e B] (hx : ev E x = some (.slice u.1 k u.2)) (hy : ev E y = some (.slice (some (ad sb 0)) q c')) [hT : FOwnB P e u s R] [hk' : Look R sb cells te R1] (hk : k = s.size)
  (hq : q = r.size) (hc : cells = bV r) (hzl : zs.length = 1) (h63 : s.size + r.size <= maxLen) (hB : (s.size + r.size) * B <= 140737488355328) (hd : Nat.blt d n = true) :
  OpX prog σ n E P ⟨some d, .call ⟨.builtin .append, #[x, y], #[t, t]⟩, ty, pos, aft, g⟩ (fun _ : Option Addr × Nat => True) (fun u' => (d, .slice u'.1 (s ++ r).size u'.2) :: E) (fun u' => (aa (OwnB e u' (s ++ r)) (R))) := by
 subst hk hq hc
 refine bI rfl hd fun a w ha hw => ?_
 rw [hT.eq] at hw
 obtain ⟨u', w', hr, hs'⟩ := pP (prog := prog) (t := t) (ty := ty) (c' := c') (sb := sb) (so := 0) hzl hw (fun j v hj => by rw [Nat.zero_add]; exact aC (b := sb) (l := bV r) hj) h63 hB
 refine ⟨u', w', trivial, ?_, hs'⟩
 simp only [execOp, resolve, List.map_toArray, List.map_cons, List.map_nil, ha.ev hx, ha.ev hy, Sem.run_bind, Sem.run_pure, Result.andThen_ok, invoke, builtin, hr]
end
section
variable {e t ty : TypeId} {b tx B d k : Nat} {s r : ByteArray} {w : World} {x u : Option Addr × Nat} {R : ab} {l zs : List Value} {fz : Nat × Nat} {y : Operand} {pos : String} {aft : Array Edge} {g : Option (Nat × Bool)}
variable {prog : Program} {σ : World} {n : Nat} {Q : Exit -> Act -> World -> Prop} {E E' : Env} {P P' R F : ab} {ops : Array Oper} {rest : List Oper}
def OwnF (e : TypeId) (x : Option Addr × Nat) (s : ByteArray) : ab := ex fun z : Nat × Nat × List Value × Nat =>
 (aa (lift (x = (some (ad z.1 0), z.2.1) /\ s.size <= z.2.1 /\ z.2.1 <= maxLen /\ z.2.1 - s.size <= z.2.2.1.length /\ z.2.2.2 <= s.size)) (blk z.1 (.cells (bV s ++ z.2.2.1).toArray e (0, z.2.2.2))))
theorem OwnF.mk {c f : Nat} {post : List Value} (h1 : s.size <= c) (h2 : c <= maxLen) (h3 : c - s.size <= post.length) (h4 : f <= s.size) : Ent (blk b (.cells (bV s ++ post).toArray e (0, f))) (OwnF e (some (ad b 0), c) s) :=
 Ent.trans (Ent.lift (p := ((some (ad b 0), c) : Option Addr × Nat) = (some (ad b 0), c) /\ s.size <= c /\ c <= maxLen /\ c - s.size <= post.length /\ f <= s.size) ⟨rfl, h1, h2, h3, h4⟩) (gl fun h hh => ⟨(b, c, post, f), hh⟩)
theorem nD (h : Sat σ w (aa (OwnF e x s) (R))) : ∃ b c post f, x = (some (ad b 0), c) /\ s.size <= c /\ c <= maxLen /\ c - s.size <= List.length post /\ f <= s.size /\ Sat σ w (aa (blk b (.cells (bV s ++ post).toArray e (0, f))) (R)) := by
 obtain ⟨⟨b, c, post, f⟩, hz⟩ := sat_ex.1 h
 simp only [ak] at hz
 obtain ⟨⟨h1, h2, h3, h4, h5⟩, h6⟩ := sat_lift.1 hz
 exact ⟨b, c, post, f, h1, h2, h3, h4, h5, h6⟩
theorem yE (hs : s.size ≠ 0) : Ent (OwnZ e x s) (OwnF e x s) := gl fun h hh => by
 obtain ⟨z, hz⟩ := hh
 cases z with
 | none => exact absurd hz.1.2 hs
 | some bc =>
  obtain ⟨b, c, post⟩ := bc
  obtain ⟨h1, h2, ha, hj, ⟨⟨e1, e2, e3, e4⟩, h5⟩, h6⟩ := hz
  exact ⟨(b, c, post, 0), h1, h2, ha, hj, ⟨⟨e1, e2, e3, e4, Nat.zero_le _⟩, h5⟩, h6⟩
class FOwnF (P : ab) (e : TypeId) (x : Option Addr × Nat) (s : outParam ByteArray) (R : outParam ab) : Prop where
 eq : P = (aa (OwnF e x s) (R))
instance (priority := 100) {A P : ab} [h : FOwnF P e x s R] : FOwnF (aa (A) (P)) e x s (aa (A) (R)) := ⟨by rw [h.eq, aR]⟩
instance (priority := 200) : FOwnF (aa (OwnF e x s) (R)) e x s R := ⟨rfl⟩
theorem hO (P : Program) (g o : Nat) (t : TypeId) (fz : Nat × Nat) : ∀ (vs : List Value) (i : Nat) (cur : Array Value) (w : World), w.heap[g]? = some (.cells cur t fz) -> fz.2 <= o -> o + i + vs.length <= cur.size -> (∀ v ∈ vs, v.oneCell' = true) ->
  (storeCells ⟨g, o, none⟩ vs i).run P w = .ok () (w.setRow g (cur.toList.take (o + i) ++ vs ++ cur.toList.drop (o + i + vs.length)).toArray)
 | [], i, cur, w, hg, _, _, _ => by
  simp only [storeCells, List.append_nil, List.length_nil, Nat.add_zero, List.take_append_drop, Array.toArray_toList]
  rw [setRow_self w g cur t fz hg]
  rfl
 | v :: rest, i, cur, w, hg, hfz, hl, h1 => by
  have hi : o + i < cur.size := by simp at hl; omega
  have hadd : (⟨g, o, none⟩ : Addr).add i = ⟨g, o + i, none⟩ := by unfold Addr.add; split <;> simp_all
  have hcell : w.cell? ⟨g, o + i, none⟩ = some cur[o + i] := by simp [World.cell?, hg, hi]
  have hfro : w.frozen? ⟨g, o + i, none⟩ = false := by
   obtain ⟨lo, hi'⟩ := fz
   simp only [World.frozen?, hg, Bool.and_eq_false_iff, decide_eq_false_iff_not]
   right
   simp only at hfz
   omega
  have hst : (store ((⟨g, o, none⟩ : Addr).add i) v).run P w = .ok () (w.setRow g (cur.setIfInBounds (o + i) v)) := by
   rw [hadd, run_store P w _ v _ (h1 v (by simp)), hcell]
   simp [hfro, setCell_eq_setRow w g (o + i) cur t fz v hg]
  have ih := hO P g o t fz rest (i + 1) (cur.setIfInBounds (o + i) v) (w.setRow g (cur.setIfInBounds (o + i) v)) (setRow_heap w g cur _ t _ hg) hfz (by simp at hl ⊢; omega) (fun x hx => h1 x (by simp [hx]))
  simp only [storeCells, Sem.run_bind, hst, Result.andThen_ok, ih, setRow_setRow]
  congr 3
  have e := list_seg_step cur.toList (o + i) v rest (by simp at hl ⊢; omega)
  simpa [Array.toList_setIfInBounds, Nat.add_assoc] using e
theorem lW {o : Nat} (h : Sat σ w (aa (blk b (.cells l.toArray t fz)) (R))) : w.cell? (ad b o) = l[o]? := by
 have := h.blk
 simp [World.cell?, ad, this]
theorem s4 (h : Sat σ w (aa (blk b (.cells l.toArray e fz)) (R))) : w.shape? b = some (e, l.length) := by
 have hb := h.blk
 unfold World.shape?
 rw [hb]
 simp
theorem rz {t e : Nat} [Slc prog t e 1] [Str prog tx] [Zer prog e zs] [Byt prog e B] (hzl : zs.length = 1) (hs : Sat σ w (aa (OwnF e u s) (P)))
  (h63 : s.size + r.size <= maxLen) (hB : (s.size + r.size) * B <= 140737488355328) :
  ∃ u' w', (Builtin.append_ #[t, tx] ty #[.slice u.1 s.size u.2, .string r]).run prog w = .ok (.slice u'.1 (s ++ r).size u'.2) w' /\ Sat σ w' (aa (OwnF e u' (s ++ r)) (P)) := by
 obtain ⟨ht, i, hi, hsz⟩ := Slc.spec (prog := prog) t e 1
 have htx := Str.spec (prog := prog) tx
 obtain ⟨i', z, hi', hz, hzc⟩ := Zer.spec (prog := prog) e zs
 obtain rfl : i = i' := Option.some.inj (hi.symm.trans hi')
 obtain ⟨i', hi'', hb⟩ := Byt.spec (prog := prog) e B
 obtain rfl : i = i' := Option.some.inj (hi.symm.trans hi'')
 have hl : (bV r).length = r.size := dK r
 have hls : (bV s).length = s.size := dK s
 have hzsz : z.cells.size = 1 := by rw [<- Array.length_toList, hzc, hzl]
 have hsmall : s.size + r.size <= 9223372036854775807 := by simp only [maxLen] at h63; omega
 have hsrc : Go.Src prog i.size tx (.string r) r.size (bV r) w := by rw [hsz]; exact Go.Src.ofString w htx r
 obtain ⟨b, c, post, f, rfl, hc1, hc2, hc3, hf, hP⟩ := nD hs
 have hblk := hP.blk
 have hold : ∀ j u, (bV s)[j]? = some u -> w.cell? ((ad b 0).add j) = some u := fun j u hj => by
  have hjl : j < (bV s).length := by
   rcases Nat.lt_or_ge j (bV s).length with h | h
   ·exact h
   ·rw [List.getElem?_eq_none h] at hj; cases hj
  rw [db, Nat.zero_add, lW hP, List.getElem?_append_left hjl, hj]
 by_cases hroom : s.size + r.size <= c
 ·have hfc : (Builtin.firstCells 1 r.size (.string r)).run prog w = .ok (bV r).toArray w := firstCells_string (P := prog) r w
  have hst := hO prog b s.size e (0, f) (bV r) 0 (bV s ++ post).toArray w hblk hf (by rw [List.size_toArray, List.length_append, hls, hl]; omega) (jo r)
  simp only [Nat.add_zero] at hst
  have e2 : (bV s ++ post).toArray.toList.take s.size ++ bV r ++ (bV s ++ post).toArray.toList.drop (s.size + (bV r).length) = bV (s ++ r) ++ post.drop r.size := by
   show (bV s ++ post).take s.size ++ bV r ++ (bV s ++ post).drop (s.size + (bV r).length) = _
   rw [List.take_left' hls, <- List.drop_drop, List.drop_left' hls, hl, dC]
  rw [e2] at hst
  have hst' : (storeCells ((ad b 0).add (s.size * 1)) (bV r) 0).run prog w = .ok () (w.setRow b (bV (s ++ r) ++ post.drop r.size).toArray) := by
   rw [db, Nat.zero_add, Nat.mul_one]; exact hst
  refine ⟨(some (ad b 0), c), w.setRow b (bV (s ++ r) ++ post.drop r.size).toArray, ?_, ?_⟩
  ·simp only [Builtin.append_, List.getElem?_toArray, List.getElem?_cons_zero, List.getElem?_cons_succ, Sem.run_bind, ba ht, ba htx, Result.andThen_ok, bk hi, Sem.run_pure, Builtin.lenOf, hsz, hroom, if_true, hfc, hst', Sem.run_ite, Bool.false_eq_true, if_false, Bool.not_false, ByteArray.size_append]
  ·have h5 : Sat σ (w.setRow b (bV (s ++ r) ++ post.drop r.size).toArray) (aa (blk b (.cells (bV (s ++ r) ++ post.drop r.size).toArray e (0, f))) (P)) :=
    hP.update rfl rfl rfl (setRow_heap w b _ _ e _ hblk) (fun k hk => setRow_other w b k _ hk)
   exact h5.ent (Ent.frame (OwnF.mk (by rw [ByteArray.size_append]; exact hroom) hc2 (by rw [ByteArray.size_append, List.length_drop]; omega) (by rw [ByteArray.size_append]; omega)) P)
 ·have hr' := run_append_grow_src (P := prog) w t tx ty e i z ht hi hz (some (ad b 0)) s.size c (bV s) (by
   have h5 := run_firstCells_some (P := prog) w.drew i.size s.size (ad b 0) s.size c (bV s) (by rw [hls, hsz, Nat.mul_one]) (fun j u hj => by simpa using hold j u hj)
   exact h5) (.string r) r.size (bV r) hsrc (by omega) (by omega) (growslice_fits (by omega) (by rw [hb]; exact hB))
  refine ⟨(some (ad w.heap.size 0), grownCap w (s.size + r.size) c e), _, by rw [ByteArray.size_append]; exact hr', ?_⟩
  have hge := grownCap_ge w (s.size + r.size) c e
  have hle := grownCap_le_maxLen w (s.size + r.size) c e h63
  have h2 := hP.drop.drew.alloc (.cells ((bV s ++ bV r).toArray ++ Builtin.zeroCells z.cells (grownCap w (s.size + r.size) c e - (s.size + r.size))) e)
  have e1 : ((bV s ++ bV r).toArray ++ Builtin.zeroCells z.cells (grownCap w (s.size + r.size) c e - (s.size + r.size))) = (bV (s ++ r) ++ (Builtin.zeroCells z.cells (grownCap w (s.size + r.size) c e - (s.size + r.size))).toList).toArray := by
   apply Array.toList_inj.1; rw [dC]; simp
  rw [e1] at h2 ⊢
  refine h2.ent (Ent.frame (OwnF.mk (f := 0) (by rw [ByteArray.size_append]; exact hge) hle ?_ (Nat.zero_le _)) P)
  rw [Array.length_toList, size_zeroCells, hzsz, ByteArray.size_append]
  omega
theorem rJ {x : Operand} {t e : Nat} [Slc prog t e 1] [Str prog tx] [Zer prog e zs] [Byt prog e B] (hx : ev E x = some (.slice u.1 k u.2)) (hy : ev E y = some (.string r)) [hT : FOwnF P e u s R] (hk : k = s.size)
  (hzl : zs.length = 1) (h63 : s.size + r.size <= maxLen) (hB : (s.size + r.size) * B <= 140737488355328) (hd : Nat.blt d n = true) :
  OpX prog σ n E P ⟨some d, .call ⟨.builtin .append, #[x, y], #[t, tx]⟩, ty, pos, aft, g⟩ (fun _ : Option Addr × Nat => True) (fun u' => (d, .slice u'.1 (s ++ r).size u'.2) :: E) (fun u' => (aa (OwnF e u' (s ++ r)) (R))) := by
 subst hk
 refine bI rfl hd fun a w ha hw => ?_
 rw [hT.eq] at hw
 obtain ⟨u', w', hr, hs'⟩ := rz (prog := prog) (t := t) (tx := tx) (ty := ty) hzl hw h63 hB
 refine ⟨u', w', trivial, ?_, hs'⟩
 simp only [execOp, resolve, List.map_toArray, List.map_cons, List.map_nil, ha.ev hx, ha.ev hy, Sem.run_bind, Sem.run_pure, Result.andThen_ok, invoke, builtin, hr]
theorem nN {x : Operand} [PtrT prog ty] (hx : ev E x = some (.slice u.1 k u.2)) [hT : FOwnF P e u s R] (h0 : 0 < s.size) (hd : Nat.blt d n = true) :
  OpX prog σ n E P ⟨some d, .call ⟨.builtin .unsafeSliceData, #[x], #[t]⟩, ty, pos, aft, g⟩ (fun _ : Unit => True) (fun _ => (d, .pointer u.1) :: E) (fun _ => P) := by
 refine bI rfl hd fun a w ha hw => ?_
 obtain ⟨e', he'⟩ := PtrT.spec (prog := prog) ty
 have hw' := hw
 rw [hT.eq] at hw'
 obtain ⟨b, c, post, f, rfl, hc1, hc2, hc3, hf, hP⟩ := nD hw'
 have h1 := Lib.run_unsafeSliceData_row (P := prog) (w := w) #[t] ty (ad b 0) k c (by omega)
 exact ⟨(), w, trivial, by simp only [execOp, resolve, List.map_toArray, List.map_cons, List.map_nil, ha.ev hx, Sem.run_bind, Sem.run_pure, Result.andThen_ok, invoke, builtin, h1], hw⟩
theorem lD {x : Operand} {ti : TypeId} {k : Int} [hpe : PtrE prog t e] (hx : ev E x = some (.pointer u.1)) (hy : ev E y = some (.int .i64 k)) [hT : FOwnF P e u s R] (hk : k = s.size) (h0 : 0 < s.size) (hd : Nat.blt d n = true) :
  OpX prog σ n E P ⟨some d, .call ⟨.builtin .unsafeString, #[x, y], #[t, ti]⟩, ty, pos, aft, g⟩ (fun _ : Unit => True) (fun _ => (d, .string s) :: E) (fun _ => (aa (OwnF e u s) (R))) := by
 subst hk
 refine bI rfl hd fun a w ha hw => ?_
 rw [hT.eq] at hw
 obtain ⟨h1, h2⟩ := hpe.spec
 obtain ⟨b, c, post, f, rfl, hc1, hc2, hc3, hf, hP⟩ := nD hw
 have hls : (bV s).length = s.size := dK s
 have hdl : s.data.toList.length = s.size := Array.length_toList
 have hcell : ∀ j y, s.data.toList[j]? = some y -> w.cell? ((⟨b, 0, none⟩ : Addr).add j) = some (.int .u8 y.toNat) := fun j y hj => by
  have hjl : j < s.data.toList.length := by
   rcases Nat.lt_or_ge j s.data.toList.length with h | h
   ·exact h
   ·rw [List.getElem?_eq_none h] at hj; cases hj
  have hadd : (⟨b, 0, none⟩ : Addr).add j = ad b j := by rw [show (⟨b, 0, none⟩ : Addr) = ad b 0 from rfl, db, Nat.zero_add]
  rw [hadd, lW hP, List.getElem?_append_left (by rw [hls]; omega)]
  unfold bV
  rw [List.getElem?_map, hj]
  rfl
 have hsz : s.size <= 9223372036854775807 := by unfold maxLen at hc2; omega
 have hr := Lib.run_unsafeString_row (P := prog) (w := w) t ti ty e h1 h2 b (bV s ++ post).length (s4 hP) s.data.toList (fun h => by rw [<- hdl, h] at h0; cases h0) (by rw [List.length_append, hls, hdl]; omega) (by rw [hdl]; exact hsz) hcell
 rw [hdl] at hr
 have h0' : s.size ≠ 0 := by omega
 refine ⟨(), w.freeze ⟨b, 0, none⟩ s.size, trivial, ?_, ?_⟩
 ·simp only [execOp, resolve, List.map_toArray, List.map_cons, List.map_nil, ha.ev hx, ha.ev hy, Sem.run_bind, Sem.run_pure, Result.andThen_ok, invoke, builtin]
  have hr2 : (Builtin.unsafeString_ #[t, ti] ty #[.pointer (some (ad b 0)), .int .i64 s.size]).run prog w = .ok (.string s) (w.freeze ⟨b, 0, none⟩ s.size) := by simpa [ad] using hr
  rw [hr2]
  rfl
 ·have hblk := hP.blk
  refine (hP.update (w' := w.freeze ⟨b, 0, none⟩ s.size) (o' := .cells (bV s ++ post).toArray e (0, s.size)) ?_ ?_ ?_ ?_ ?_).ent (Ent.frame (OwnF.mk hc1 hc2 hc3 (Nat.le_refl _)) R)
  ·unfold World.freeze; rw [if_neg h0']
  ·unfold World.freeze; rw [if_neg h0']
  ·unfold World.freeze; rw [if_neg h0']
  ·unfold World.freeze
   rw [if_neg h0']
   show (w.heap.modify b _)[b]? = _
   rw [Array.getElem?_modify, if_pos rfl, hblk]
   simp only [Option.map_some, Nat.zero_add, Option.some.injEq, Obj.cells.injEq, true_and]
   by_cases hf0 : f = 0
   ·subst hf0; simp
   ·have : (0 == f) = false := by simp; omega
    simp only [this, Bool.false_eq_true, if_false, Nat.min_self, Prod.mk.injEq, true_and]
    omega
  ·intro k hk
   unfold World.freeze
   rw [if_neg h0']
   show (w.heap.modify b _)[k]? = _
   rw [Array.getElem?_modify, if_neg (fun e => hk e.symm)]
end
section
variable {l : Nat} {X : Type} {E' : X -> Env} {P' : X -> ab} {φ : X -> Prop}
variable {prog : Program} {σ : World} {n : Nat} {E : Env} {P : ab} {Q : Exit -> Act -> World -> Prop}
theorem td {d : Option Tmp} {ty : TypeId} {pos : String} {aft : Array Edge} {g : Option (Nat × Bool)} {x y : Operand} {t t' : TypeId} {k : IntKind} {a b : Int} (hx : ev E x = some (.int k a)) (hy : ev E y = some (.int k b)) : OpV prog σ n E P ⟨d, .binOp .andNot t x y t', ty, pos, aft, g⟩ (.int k (k.wrap (BitVec.ofInt k.bits a &&& ~~~ BitVec.ofInt k.bits b).toNat)) :=
 fun _ _ ha _ => by simp [execOp, ha.ev hx, ha.ev hy, eqGuard, binOp, Op.intBits]
theorem A4 {X : Type} {c : Code} (l : Nat) (rest : Code) (hf : findLabel c l = some rest) (E' : X -> Env) (P' : X -> ab) (φ : X -> Prop) (μ : X -> Nat)
  (first : J prog σ n c (Exit.jump l (fun a w => ∃ x, φ x /\ Agree n (E' x) a /\ Sat σ w (P' x)) Q) E P)
  (pass : ∀ x, φ x -> J prog σ n rest (Exit.jump l (fun a w => ∃ y, (φ y /\ μ y < μ x) /\ Agree n (E' y) a /\ Sat σ w (P' y)) Q) (E' x) (P' x)) : J prog σ n (.scope c) Q E P := by
 intro a w ha hw b k cs
 have hg : gotoIn l (.inScope c :: k) = some (.code rest :: .inScope c :: k) := by simp [gotoIn, hf]
 have key : ∀ m x a w, μ x = m -> φ x -> Agree n (E' x) a -> Sat σ w (P' x) -> ∃ e a' w', Q e a' w' /\ Arrives prog (lone (b.at a (.code rest :: .inScope c :: k)) cs w) b k cs e a' w' := by
  intro m
  induction m using Nat.strongRecOn with
  | _ m ih =>
   intro x a w hm hx ha hw
   obtain ⟨e, a₁, w₁, hq, harr⟩ := pass x hx a w ha hw b (.inScope c :: k) cs
   cases e with
   | normal => exact ⟨.normal, a₁, w₁, hq, Steps.trans harr (.one step_inScope)⟩
   | exit id => exact ⟨.exit id, a₁, w₁, hq, fun k' hk => harr k' (by simp [exitTo, hk])⟩
   | goto l' =>
    obtain ⟨rfl, y, ⟨hy, hlt⟩, ha₁, hw₁⟩ := hq
    obtain ⟨e₂, a₂, w₂, hq₂, harr₂⟩ := ih (μ y) (by omega) y a₁ w₁ rfl hy ha₁ hw₁
    exact ⟨e₂, a₂, w₂, hq₂, .of_steps (harr _ hg) harr₂⟩
   | ret => exact ⟨_, a₁, w₁, hq, harr⟩
   | panic ch => exact ⟨_, a₁, w₁, hq, harr⟩
   | outgrown => exact ⟨_, a₁, w₁, hq, harr⟩
 obtain ⟨e, a₁, w₁, hq, harr⟩ := first a w ha hw b (.inScope c :: k) cs
 cases e with
 | normal => exact ⟨.normal, a₁, w₁, hq, .head step_scope (Steps.trans harr (.one step_inScope))⟩
 | exit id => exact ⟨.exit id, a₁, w₁, hq, fun k' hk => .head step_scope (harr k' (by simp [exitTo, hk]))⟩
 | goto l' =>
  obtain ⟨rfl, x, hx, ha₁, hw₁⟩ := hq
  obtain ⟨e₂, a₂, w₂, hq₂, harr₂⟩ := key _ x a₁ w₁ rfl hx ha₁ hw₁
  exact ⟨e₂, a₂, w₂, hq₂, .of_steps (.head step_scope (harr _ hg)) harr₂⟩
 | ret => exact ⟨_, a₁, w₁, hq, .of_steps (.one step_scope) harr⟩
 | panic ch => exact ⟨_, a₁, w₁, hq, .of_steps (.one step_scope) harr⟩
 | outgrown => exact ⟨_, a₁, w₁, hq, .of_steps (.one step_scope) harr⟩
theorem ox {J : Act -> World -> Prop} (h : K σ n Q .ret E P) : K σ n (Exit.jump l J Q) .ret E P := h
theorem A3 (x : X) (hx : φ x) (hs : Sub (E' x) E) (hp : Ent P (P' x)) : K σ n (Exit.jump l (fun a w => ∃ x, φ x /\ Agree n (E' x) a /\ Sat σ w (P' x)) Q) (.goto l) E P := fun _ _ ha hw => ⟨rfl, x, hx, ha.sub hs, hw.ent hp⟩
theorem AZ {μ : X -> Nat} {x : X} (y : X) (hy : φ y) (hm : μ y < μ x) (hs : Sub (E' y) E) (hp : Ent P (P' y)) : K σ n (Exit.jump l (fun a w => ∃ y, (φ y /\ μ y < μ x) /\ Agree n (E' y) a /\ Sat σ w (P' y)) Q) (.goto l) E P := fun _ _ ha hw => ⟨rfl, y, ⟨hy, hm⟩, ha.sub hs, hw.ent hp⟩
end
section
variable {prog : Program} {σ : World} {n : Nat} {E : Env} {P : ab} {Q : Exit -> Act -> World -> Prop}
theorem gz {c : Code} (h : J prog σ n c (Exit.noGoto Q) E P) : J prog σ n (.scope c) Q E P := fun a w ha hw => wp_scope_straight (h a w ha hw)
theorem kw (h : K σ n Q .ret E P) : K σ n (Exit.noGoto Q) .ret E P := h
end
section
variable {m id b d : Nat} {f : FuncId} {args : Array Value} {w : World} {a : Act} {Q : Exit -> Act -> World -> Prop} {l : List Oper} {x y : Code} {c : Operand} {o : Obj} {r : Loop} {RR : Ending -> World -> Prop} {op : Op} {ty : TypeId} {pos : String} {aft : Array Edge} {v : Value} {fn : Func} {X : Type} {rs : List ResultVar} {vs : List Value} {ds : List Deferred} {A P R : ab} {φ : X -> Prop} {val : X -> Value} {Qo : X -> ab}
variable {prog : Program} {σ : World} {n : Nat} {Q : Exit -> Act -> World -> Prop} {E E' : Env} {P P' R F : ab} {ops : Array Oper} {rest : List Oper} {ro : Option Nat}
def FW (ro : Option Nat) : Fence := { Fence.wide with round := ro }
def qh (o : Oper) : Bool := match o.op with | .defer _ => false | _ => true
theorem n4 {R : Ending -> World -> Prop} (h : Calls prog f args w R) : CallsIn (FW ro) m prog f args w R := by
 have := (callsIn_wide (n := m)).2 h
 cases ro with
 | none => exact this
 | some l => exact CallsIn.inRound l this
theorem uZ {row : String} {R : Value -> World -> Prop} (h : Rows prog row args w R) : RowsIn (FW ro) m prog row args w R := fun c cs _ =>
 let ⟨v, w', r, s⟩ := h c cs
 ⟨v, w', r, show StepsIn (Machine.fenced prog Fence.wide) prog _ _ from stepsIn_wide.2 s⟩
theorem Bj {o : Oper} {K : Act -> World -> Prop} (hn : qh o = true) (h : o.wp prog a w K Q) : o.wpIn (FW ro) m prog a w K Q := by
 refine ⟨fun _ _ => trivial, ?_⟩
 rw [Oper.semAt_eq _ _ _ (fun c hc => by simp [qh, hc] at hn)]
 unfold Oper.wp at h
 generalize (execOp a.eval o).run prog w = r at *
 cases r with
 | ok x w' =>
  cases x with
  | value v => exact h
  | skip => exact h
  | defer d => exact h
  | enter f args => exact ⟨fun h => (by cases h), n4 (Calls.mono h (fun e w'' he => by cases e <;> exact he))⟩
  | row row args => exact ⟨fun h => (by cases h), uZ h⟩
  | _ => exact h.elim
 | halt x w' =>
  cases x with
  | panic v => exact h
  | _ => exact h.elim
class NO (Q : Exit -> Act -> World -> Prop) : Prop where
 no : ¬ LetsOut Q
instance {R : Act -> World -> Prop} [h : NO Q] : NO (Exit.then R Q) := ⟨fun ⟨a, w, hq⟩ => h.no ⟨a, w, hq⟩⟩
instance [h : NO Q] : NO (Exit.inBlock id Q) := ⟨fun ⟨a, w, hq⟩ => h.no ⟨a, w, hq⟩⟩
instance {l : Nat} {R : Ending -> World -> Prop} : NO (roundPost prog l R) := ⟨fun ⟨_, _, h⟩ => h⟩
instance {l : Nat} {R : Ending -> World -> Prop} : NP (roundPost prog l R) := ⟨fun _ _ _ h => h⟩
theorem mh {m : Nat} (hQ : ¬ LetsOut Q) : ∀ (l : List Oper) (a : Act) (w : World), l.all qh = true -> wpList prog ops Q l a w -> wpListIn (FW ro) m prog ops Q l a w
 | [], _, _, _, h => h
 | o :: l, a, w, hl, h => by
  simp only [List.all_cons, Bool.and_eq_true] at hl
  unfold wpList at h
  unfold wpListIn
  split at h
  ·rename_i hw
   rw [if_pos hw]
   rcases h with h | h
   ·exact Oper.wpIn_mono (fun a' w' h' => mh hQ l a' w' hl.2 h') (Bj hl.1 h)
   ·exact absurd h.2 hQ
  ·rename_i hw
   rw [if_neg hw]
   exact ⟨fun _ _ => trivial, mh hQ l _ w hl.2 h⟩
theorem k9 {m : Nat} {md : Region.Mode} (hQ : ¬ LetsOut Q) (ho : ops.toList.all qh = true) : ∀ (fuel : Nat) (listed : Array Bool) (a : Act) (w : World), wpAny prog md ops Q fuel listed a w -> wpAnyIn (FW ro) m prog md ops Q fuel listed a w
 | 0, _, _, _, h => h
 | fuel + 1, listed, a, w, h => ⟨h.1, fun i hi => by
  have h2 := h.2 i hi
  unfold wpOp at h2
  unfold wpOpIn
  cases hoi : ops[i]? with
  | none => simp only [hoi] at h2 ⊢; exact k9 hQ ho fuel _ a w h2
  | some o =>
   simp only [hoi] at h2 ⊢
   have hnd : qh o = true := List.all_eq_true.1 ho o (by rw [Array.mem_toList_iff]; exact Array.mem_of_getElem? hoi)
   split at h2
   ·rename_i hw
    rw [if_pos hw]
    rcases h2 with h2 | h2
    ·exact Oper.wpIn_mono (fun a' w' h' => k9 hQ ho fuel _ a' w' h') (Bj hnd h2)
    ·exact absurd h2.2 hQ
   ·rename_i hw
    rw [if_neg hw]
    exact ⟨fun _ _ => trivial, k9 hQ ho fuel _ _ w h2⟩⟩
section
variable (prog) (σ) (n) (ro)
def JI (c : Code) (Q : Exit -> Act -> World -> Prop) (E : Env) (P : ab) : Prop := ∀ a w, Agree n E a -> Sat σ w P -> c.wpIn (FW ro) 0 prog Q a w
def LI (ops : Array Oper) (rest : List Oper) (Q : Exit -> Act -> World -> Prop) (E : Env) (P : ab) : Prop := ∀ a w, Agree n E a -> Sat σ w P -> wpListIn (FW ro) 0 prog ops Q rest a w
end
theorem iC (h : JI prog σ n ro x (Exit.then (y.wpIn (FW ro) 0 prog Q) Q) E P) : JI prog σ n ro (.seq x y) Q E P := fun a w ha hs => wpIn_seq (h a w ha hs)
theorem nv (h : K σ n Q .normal E P) : JI prog σ n ro .skip Q E P := fun a w ha hs => wpIn_skip (h a w ha hs)
theorem D2 (h : K σ n Q .ret E P) : JI prog σ n ro .ret Q E P := fun a w ha hs => wpIn_ret (h a w ha hs)
theorem gQ {c : Code} (h : JI prog σ n ro c (Exit.inBlock id Q) E P) : JI prog σ n ro (.block id c) Q E P := fun a w ha hs => wpIn_block (h a w ha hs)
theorem mf (hc : ev E c = some (.bool true)) (ht : JI prog σ n ro x Q E P) : JI prog σ n ro (.cond c x y) Q E P := fun a w ha hs => wpIn_cond_true (ha.ev hc) (ht a w ha hs)
theorem gH (hc : ev E c = some (.bool false)) (ht : JI prog σ n ro y Q E P) : JI prog σ n ro (.cond c x y) Q E P := fun a w ha hs => wpIn_cond_false (ha.ev hc) (ht a w ha hs)
theorem gA [hn : NO Q] (hl : l.all qh = true) (h : L prog σ n l.toArray l Q E P) : JI prog σ n ro (.region id l.toArray false) Q E P :=
 fun a w ha hs => wpIn_region_lit (mh hn.no l a w hl (h a w ha hs))
theorem iX (S0 S : ab) (B : List Nat) [hn : NO Q] (hl : l.all qh = true) (hm : prog.follows .mixedOrders = true) (h : Rg prog σ n l.toArray Q S0 S B l.length (List.replicate l.length false).toArray E P) : JI prog σ n ro (.region id l.toArray true) Q E P :=
 fun a w ha hs => wpIn_region_any hm (k9 hn.no hl _ _ _ _ (kE (S0 := fun w => Sat σ w S0) (S := fun w => Sat σ w S) (B := B) _ _ _ _ (by
  have := h a _ ha (hs.drawn (w.drawn + 1))
  simpa using this)))
theorem gG (h : JI prog σ n ro y Q E P) : K σ n (Exit.then (y.wpIn (FW ro) 0 prog Q) Q) .normal E P := fun a w ha hs => h a w ha hs
theorem hX {o' : Obj} (h : Sat σ w (aa (blk b o) (R))) : Sat σ (w.putObj b o') (aa (blk b o') (R)) := by
 have hlt : b < w.heap.size := (Array.getElem?_eq_some_iff.1 h.blk).1
 exact h.update rfl rfl rfl (World.putObj_heap_same hlt) (fun k hk => World.putObj_heap_other (fun e => hk (by rw [e])))
theorem qU {l : Nat} (hP : P = (aa (blk l (.loop r)) (R))) (h : ∀ w', Sat σ w' (aa (blk l (.loop { r with state := .ready, pending := none })) (R)) -> RR (.returned (.bool true)) w') : K σ n (roundPost prog l RR) .normal E P := fun a w ha hs => by
 rw [hP] at hs
 exact ⟨_, _, run_endRound none hs.blk, h _ (hX hs)⟩
theorem D0 {l : Nat} (hP : P = (aa (blk l (.loop r)) (R))) (h : ∀ w', Sat σ w' (aa (blk l (.loop { r with state := .done, pending := some .ret })) (R)) -> RR (.returned (.bool false)) w') : K σ n (roundPost prog l RR) .ret E P := fun a w ha hs => by
 rw [hP] at hs
 exact ⟨_, _, run_endRound (some .ret) hs.blk, h _ (hX hs)⟩
theorem mJ (h : LI prog σ n none l.toArray l Q E P) : J prog σ n (.region id l.toArray false) Q E P := fun a w ha hs => wpIn_wide.1 (wpIn_region_lit (h a w ha hs))
theorem ow (h : K σ n Q .normal E P) : LI prog σ n ro ops [] Q E P := fun a w ha hs => h a w ha hs
theorem gM (h : OpV prog σ n E P ⟨some d, op, ty, pos, aft, none⟩ v) (hn : qh ⟨some d, op, ty, pos, aft, none⟩ = true) (hd : Nat.blt d n = true) (k : LI prog σ n ro ops rest Q ((d, v) :: E) P) :
  LI prog σ n ro ops (⟨some d, op, ty, pos, aft, none⟩ :: rest) Q E P := fun a w ha hs => by
 unfold wpListIn
 rw [if_pos (show Region.wanted ⟨some d, _, ty, pos, aft, none⟩ (yielded ops a.tmps) = true from rfl)]
 refine ⟨fun _ _ => trivial, ?_⟩
 rw [Oper.semAt_eq _ _ _ (fun c hc => by simp [qh] at hn hc; simp [hc] at hn), h a w ha hs]
 exact k _ w (ha.put (Nat.le_of_ble_eq_true hd) v) hs
theorem ov {d : Nat} {x : Operand} {args : Array Operand} {tys : Array TypeId} {ty : TypeId} {pos : String} {aft : Array Edge} {l : Nat} {vs : List Value} {r : Loop} (hx : ev E x = some (.func (.yield l) #[] #[])) (hv : evl E args.toList = some vs) (hd : Nat.blt d n = true)
  (hP : P = (aa (blk l (.loop r)) (R))) (hsz : vs.length = r.params.size)
  (h : ∀ RR : Ending -> World -> Prop, (∀ v P', LI prog σ n ro ops rest Q ((d, v) :: E) P' -> ∀ w', Sat σ w' P' -> RR (.returned v) w') -> ∀ w, Sat σ w P ->
   r.assign.wpIn (FW (some l)) 0 prog (Exit.then (fun a₁ w₁ => ∃ w₂, (Instr.beginRound l).run prog w₁ = .ok () w₂ /\ r.body.wpIn (FW (some l)) 0 prog (roundPost prog l RR) a₁ w₂) (fun _ _ _ => False))
    { tmps := (r.params.zip vs.toArray).foldl (fun t (p, v) => t.setIfInBounds p v) r.tmps, defers := [] } w) :
  LI prog σ n ro ops (⟨some d, .call ⟨.value x, args, tys⟩, ty, pos, aft, none⟩ :: rest) Q E P := fun a w ha hs => by
 unfold wpListIn
 rw [if_pos (show Region.wanted ⟨some d, _, ty, pos, aft, none⟩ (yielded ops a.tmps) = true from rfl)]
 refine ⟨fun _ _ => trivial, ?_⟩
 rw [Oper.semAt_eq _ _ _ (fun c hc => by cases hc)]
 have hs' := hs
 rw [hP] at hs'
 have hrun : (execOp a.eval ⟨some d, .call ⟨.value x, args, tys⟩, ty, pos, aft, none⟩).run prog w = .ok (.round l r.fn ((r.params.zip vs.toArray).foldl (fun t (p, v) => t.setIfInBounds p v) r.tmps) r.assign r.body) w := by
  have hy := run_yield (P := prog) (args := vs.toArray) hs'.blk (by simpa using hsz)
  unfold execOp
  simp only [resolve, Deferred.ofValue, ha.ev hx, ha.evls hv, Sem.run_bind, Sem.run_pure, Result.andThen_ok, invoke]
  simpa using hy
 rw [hrun]
 refine ⟨fun h => (by cases h), ?_⟩
 show RoundIn (FW ro) 0 prog l r.fn _ r.assign r.body w _
 let RR : Ending -> World -> Prop := fun e w'' => match e with
  | .returned v => wpListIn (FW ro) 0 prog ops Q rest (a.put (some d) v) w''
  | _ => False
 have h1 := h RR (fun v P' hk w' hw' => hk _ w' (ha.put (Nat.le_of_ble_eq_true hd) v) hw') w hs
 have h2 : RoundIn (FW ro) 0 prog l r.fn _ r.assign r.body w RR := roundIn_of_wpIn (F := FW ro) (n := 0) trivial h1
 refine h2.mono fun e w'' he => ?_
 cases e with
 | returned v => exact he
 | panicked c => exact he.elim
 | outgrown => exact he.elim
theorem nJ {l : Nat} {r : Loop} {RR : Ending -> World -> Prop} {n' : Nat} {E0 E1 : Env} {a : Act} {w : World} {assign body : Code} (hP : P = (aa (blk l (.loop r)) (R))) (hr : r.state = .ready) (ha : Agree n' E0 a) (hs : Sat σ w P)
  (h1 : JI prog σ n' (some l) assign (Exit.then (fun a₁ w₁ => Agree n' E1 a₁ /\ Sat σ w₁ P) (fun _ _ _ => False)) E0 P) (h2 : JI prog σ n' (some l) body (roundPost prog l RR) E1 (aa (blk l (.loop { r with state := .busy })) (R))) :
  assign.wpIn (FW (some l)) 0 prog (Exit.then (fun a₁ w₁ => ∃ w₂, (Instr.beginRound l).run prog w₁ = .ok () w₂ /\ body.wpIn (FW (some l)) 0 prog (roundPost prog l RR) a₁ w₂) (fun _ _ _ => False)) a w := by
 refine wpIn_mono (h1 a w ha hs) fun e a' w' he => ?_
 cases e with
 | normal =>
  obtain ⟨h3, h4⟩ := he
  rw [hP] at h4
  exact ⟨_, run_beginRound h4.blk hr, h2 _ _ h3 (hX h4)⟩
 | _ => exact he
theorem DZ {Q' : Exit -> Act -> World -> Prop} : K σ n (Exit.then (fun a w => Agree n E a /\ Sat σ w P) Q') .normal E P := fun _ _ ha hs => ⟨ha, hs⟩
instance {X : Act -> World -> Prop} : NO (Exit.then X (fun _ _ _ => False)) := ⟨fun ⟨_, _, h⟩ => h⟩
def tf (D : Nat) : Deferred := { target := .collected D, args := #[] }
theorem gN {g : Operand} {ps : Array Tmp} {assign body : Code} {gf : Nat} {fs cs : List Value} [Fun prog gf] (hg : ev E g = some (.func (.func gf) fs.toArray cs.toArray)) (st : LoopState) (pe : Option Code) (hst : st ≠ .busy) {P1 P2 : ab} [hT : Take P P1 R]
  (h : ∀ a fn l D, Agree n E a -> FSpec prog gf (fs ++ [Value.func (.yield l) #[] #[]] ++ cs).toArray (aa (blk l (.loop { state := .ready, pending := none, fn := fn, tmps := a.tmps, params := ps, assign := assign, body := body, defers := D })) (P1)) (fun _ : Unit => True) (fun _ => .tuple #[])
   (fun _ => (aa (blk l (.loop { state := st, pending := pe, fn := fn, tmps := a.tmps, params := ps, assign := assign, body := body, defers := D })) (P2))))
  (hk : ∀ a D w', Agree n E a -> Sat σ w' (aa (blk D (.deferred (some []))) (aa (P2) (R))) -> match pe with
   | none => Q .normal { a with defers := [tf D] } w'
   | some c => c.wp prog Q { a with defers := [tf D] } w') : J prog σ n (.rangeFunc g ps assign body) Q E P := fun a w ha hs => by
 refine (wpIn_wide (n := 0)).1 (wpIn_rangeFunc fun fn _ => ?_)
 have hs1 : Sat σ ((w.alloc (.deferred (some []))).alloc (.loop { state := .ready, pending := none, fn := fn, tmps := a.tmps, params := ps, assign := assign, body := body, defers := w.heap.size })) (aa (blk (w.heap.size + 1) (.loop { state := .ready, pending := none, fn := fn, tmps := a.tmps, params := ps, assign := assign, body := body, defers := w.heap.size })) (aa (blk w.heap.size (.deferred (some []))) (P))) := by
  have h1 := (hs.alloc (.deferred (some []))).alloc (.loop { state := .ready, pending := none, fn := fn, tmps := a.tmps, params := ps, assign := assign, body := body, defers := w.heap.size })
  rw [World.size_alloc] at h1
  exact h1
 have he := run_enterLoop_outer (P := prog) (w := w) fn a.tmps ps assign body
 generalize hW1 : (w.alloc (.deferred (some []))).alloc (.loop { state := .ready, pending := none, fn := fn, tmps := a.tmps, params := ps, assign := assign, body := body, defers := w.heap.size }) = W1 at hs1 he
 refine ⟨w.heap.size + 1, [tf w.heap.size], W1, { target := .fn (.func gf) cs.toArray, args := fs.toArray ++ #[.func (.yield (w.heap.size + 1)) #[] #[]] }, W1, gf, (fs ++ [Value.func (.yield (w.heap.size + 1)) #[] #[]] ++ cs).toArray, W1, he, ?_, fun _ _ => trivial, ?_, fun h => (by cases h), ?_⟩
 ·simp only [resolve, Deferred.ofValue, ha.ev hg]
  simp [Act.eval]
 ·simp only [invoke]
  rw [lu]
  simp
 ·refine n4 (ro := none) (Calls.mono (h a fn (w.heap.size + 1) w.heap.size ha σ W1 (aa (blk w.heap.size (.deferred (some []))) (R)) ?_) ?_)
  ·refine hs1.ent (Ent.of ?_)
   rw [hT.eq]
   simp only [ak]
   rw [aR (blk w.heap.size _) P1 R]
  ·rintro e w' ⟨_, _, rfl, hw'⟩
   simp only [ak] at hw'
   refine ⟨_, _, run_endLoop hw'.blk hst, ?_⟩
   have h3 := (hX (o' := .loop { state := .exhausted, pending := pe, fn := fn, tmps := a.tmps, params := ps, assign := assign, body := body, defers := w.heap.size }) hw').drop
   rw [aR P2] at h3
   have h4 := hk a w.heap.size _ ha h3
   have hd : ({ a with defers := [tf w.heap.size] ++ a.defers } : Act) = { a with defers := [tf w.heap.size] } := by rw [ha.defers]; rfl
   rw [hd]
   cases pe with
   | none => exact h4
   | some c => exact wpIn_wide.2 h4
theorem gi {c : Code} {args : List Value} (hf : prog.funcs[f]? = some fn) (hb : fn.body = some c)
  (hm : fn.ntmps = m) (hn : Nat.ble args.length m = true)
  (h : ∀ σ F, J prog σ m c (bodyPostM Fence.wide 0 prog fn (bd σ φ val Qo F)) (dm 0 args) (aa (P) (F))) : FSpec prog f args.toArray P φ val Qo := by
 subst hm
 intro σ w F hs
 refine (callsIn_wide (n := 0)).1 (callsIn_of_wp_marks hf hb trivial (wpIn_wide.2 ?_))
 refine h σ F _ w ⟨rfl, ?_, ?_⟩ hs
 ·have := Nat.le_of_ble_eq_true hn
  simp
  omega
 ·intro i v hi
  obtain ⟨_, h2⟩ := gj args 0 i v hi
  have h2 : args[i]? = some v := h2
  have hlt : i < args.length := by
   rcases Nat.lt_or_ge i args.length with h | h
   ·exact h
   ·rw [List.getElem?_eq_none h] at h2; cases h2
  rw [Array.getElem?_append_left (by simpa using hlt)]
  simpa using h2
theorem pR (hr : fn.results = rs.toArray) (h : ResL prog E P rs vs) (ha : Agree n E a) (hs : Sat σ w P) : (results fn a.tmps).run prog w = .ok (zf vs) w := by
 have h1 := h.run ha hs
 have e : results fn a.tmps = (do let vs <- fn.results.mapM (oF a); pure (if h : vs.size = 1 then vs[0] else .tuple vs)) := by
  unfold results
  congr 2
 rw [e, hr, Sem.run_bind, Array.mapM_eq_mapM_toList, Sem.run_map, h1]
 simp only [Result.andThen_ok, Sem.run_pure]
 rw [<- sX]
theorem lM {D : Nat} (hr : fn.results = rs.toArray) (h : ResL prog E P rs vs) (ha : Agree n E a) (hs : Sat σ w (aa (blk D (.deferred (some []))) (P)))
  (x : X) (hx : φ x) (hv : zf vs = val x) (hp : Ent P (aa (Qo x) (F))) : LeavesInM Fence.wide 0 prog fn a.tmps (bd σ φ val Qo F) [tf D] .returning w := by
 refine ⟨(fun h => by cases h), .inl ⟨D, _, rfl, run_takeDeferred hs.blk, ?_⟩⟩
 have h2 := (hX (o' := .deferred none) hs).drop
 exact ⟨_, pR hr h ha h2, x, hx, by rw [hv], h2.ent hp⟩
theorem GZ (h : OpV prog σ n E P ⟨some d, op, ty, pos, aft, none⟩ v) (hd : Nat.blt d n = true)
  (k : ∀ a w, Agree n ((d, v) :: E) a -> Sat σ w P -> wpList prog ops Q rest { a with defers := ds } w) : ∀ a w, Agree n E a -> Sat σ w P -> wpList prog ops Q (⟨some d, op, ty, pos, aft, none⟩ :: rest) { a with defers := ds } w := fun a w ha hs => by
 unfold wpList
 rw [if_pos (show Region.wanted ⟨some d, op, ty, pos, aft, none⟩ (yielded ops a.tmps) = true from rfl)]
 refine .inl ?_
 unfold Oper.wp
 have e : (execOp ({ a with defers := ds } : Act).eval ⟨some d, op, ty, pos, aft, none⟩).run prog w = .ok (.value v) w := h a w ha hs
 rw [e]
 exact k (a.put (some d) v) w (ha.put (Nat.le_of_ble_eq_true hd) v) hs
theorem uQ {t o : Nat} {x y : Operand} {l l' : List Value} {te : TypeId} [Siz prog t m] (hx : ev E x = some (.pointer (some (ad b o)))) (hy : ev E y = some v) [hc : Cel v vs] (hl : vs.length = m) (h1 : ∀ u ∈ vs, u.oneCell' = true) [hk : Look P b l te R] [hs : Spl l o vs l']
  (k : ∀ a w, Agree n E a -> Sat σ w (aa (am b l' te) (R)) -> wpList prog ops Q rest { a with defers := ds } w) : ∀ a w, Agree n E a -> Sat σ w P -> wpList prog ops Q (⟨none, .store t x y, ty, pos, aft, none⟩ :: rest) { a with defers := ds } w := fun a w ha hw => by
 unfold wpList
 rw [if_pos (show Region.wanted ⟨none, .store t x y, ty, pos, aft, none⟩ (yielded ops a.tmps) = true from rfl)]
 refine .inl ?_
 unfold Oper.wp
 rw [hk.eq] at hw
 have hr := kM (prog := prog) (t := t) (m := m) hw hc.c hl h1 hs.le
 have e : (execOp ({ a with defers := ds } : Act).eval ⟨none, .store t x y, ty, pos, aft, none⟩).run prog w = .ok .skip (w.setRow b (l.take o ++ vs ++ l.drop (o + vs.length)).toArray) := by
  have e2 : ({ a with defers := ds } : Act).eval = a.eval := rfl
  simp only [e2, execOp, ha.ev hx, ha.ev hy, Instr.storeAt, Instr.sureAddr, Sem.run_bind, Sem.run_pure, Result.andThen_ok, hr]
 rw [e]
 have h5 := fM (l' := l') hw
 rw [hs.eq] at h5
 exact k a _ ha (by rw [hs.eq]; exact h5)
class FBlk (P : ab) (b : Nat) (o : outParam Obj) (R : outParam ab) : Prop where
 eq : P = (aa (blk b o) (R))
instance (priority := 100) [h : FBlk P b o R] : FBlk (aa (A) (P)) b o (aa (A) (R)) := ⟨by rw [h.eq, aR]⟩
instance (priority := 150) {B : ab} [h : FBlk (aa (A) (aa (B) (P))) b o R] : FBlk (aa ((aa (A) (B))) (P)) b o R := ⟨by rw [ak]; exact h.eq⟩
instance (priority := 200) : FBlk (aa (blk b o) (R)) b o R := ⟨rfl⟩
end
section
variable {m : Int} {es : List MapEntry} {w : World} {r : Nat} {k : IntKind} {f : Int -> Option Value} {A P R B : ab} {c : Int -> Int}
variable {prog : Program} {σ : World} {n : Nat} {E : Env} {P R F : ab}
def ik : Value -> Int
 | .int _ j => j
 | _ => 0
def lk (m : Int) : List MapEntry -> Option Value
 | [] => none
 | e :: es => if ik e.key = m then some e.val else lk m es
def pB (k : IntKind) (es : List MapEntry) : Prop := ∀ e, e ∈ es -> ∃ j, e.key = .int k j
theorem ji {k : IntKind} {m : Int} : ∀ (es : List MapEntry) (i : Nat), pB k es -> ∃ fo, Instr.findNow (.int k) (.int k m) es i = some fo /\ fo.map (·.2) = lk m es /\ ∀ j u, fo = some (j, u) -> i <= j /\ ∃ e, es[j - i]? = some e /\ e.key = .int k m
 | [], i, _ => ⟨none, rfl, rfl, fun _ _ h => by cases h⟩
 | e :: es, i, hk => by
  obtain ⟨j, hj⟩ := hk e (List.mem_cons_self ..)
  by_cases h : m = j
  ·subst h
   refine ⟨some (i, e.val), ?_, ?_, fun j' u h => ?_⟩
   ·simp only [Instr.findNow, hj]
    have : Instr.sameNow (.int k) (.int k m) (.int k m) = some true := by simp [Instr.sameNow]
    rw [this]
   ·simp [lk, hj, ik]
   ·simp only [Option.some.injEq, Prod.mk.injEq] at h
    obtain ⟨rfl, rfl⟩ := h
    exact ⟨Nat.le_refl _, e, by simp, hj⟩
  ·obtain ⟨fo, h1, h2, h3⟩ := ji es (i + 1) (fun e he => hk e (List.mem_cons_of_mem _ he))
   refine ⟨fo, ?_, ?_, fun j' u h' => ?_⟩
   ·simp only [Instr.findNow, hj]
    have : Instr.sameNow (.int k) (.int k m) (.int k j) = some false := by simp [Instr.sameNow, h]
    rw [this]; exact h1
   ·simp only [lk, hj, ik]; rw [if_neg (fun e => h e.symm)]; exact h2
   ·obtain ⟨h4, e', h5, h6⟩ := h3 j' u h'
    exact ⟨by omega, e', by rw [show j' - i = (j' - (i + 1)) + 1 by omega]; exact h5, h6⟩
def re (es : List MapEntry) : Prop := es.Pairwise fun a b => ik a.key ≠ ik b.key
theorem ve (m : Int) (es fs : List MapEntry) : lk m (es ++ fs) = (lk m es).or (lk m fs) := by
 induction es with
 | nil => simp [lk]
 | cons e es ih => simp only [List.cons_append, lk]; split <;> simp [ih]
theorem uA (h : ∀ e, e ∈ es -> ik e.key ≠ m) : lk m es = none := by
 induction es with
 | nil => rfl
 | cons e es ih => simp only [lk]; rw [if_neg (h e (List.mem_cons_self ..)), ih fun e he => h e (List.mem_cons_of_mem _ he)]
theorem zV (h : lk m es = none) : ∀ e, e ∈ es -> ik e.key ≠ m := by
 induction es with
 | nil => intro e he; cases he
 | cons e es ih =>
  simp only [lk] at h
  split at h
  ·cases h
  ·rename_i h1
   intro e' he
   rcases List.mem_cons.1 he with rfl | he
   ·exact h1
   ·exact ih h e' he
def az (r : Nat) (k : IntKind) (f : Int -> Option Value) : ab := ex fun x : List MapEntry × Nat => (aa (lift (pB k x.1 /\ re x.1 /\ ∀ m, lk m x.1 = f m)) (blk r (.map x.1.toArray x.2)))
theorem nF (h : Sat σ w (aa (az r k f) (R))) : ∃ es c, pB k es /\ re es /\ (∀ m, lk m es = f m) /\ Sat σ w (aa (blk r (.map es.toArray c)) (R)) := by
 obtain ⟨⟨es, c⟩, h1⟩ := sat_ex.1 h
 rw [ak] at h1
 obtain ⟨⟨h2, h3, h4⟩, h5⟩ := sat_lift.1 h1
 exact ⟨es, c, h2, h3, h4, h5⟩
theorem jO {c : Nat} (h1 : pB k es) (h2 : re es) (h3 : ∀ m, lk m es = f m) (h : Sat σ w (aa (blk r (.map es.toArray c)) (R))) : Sat σ w (aa (az r k f) (R)) := by
 refine sat_ex.2 ⟨(es, c), ?_⟩
 rw [ak]
 exact sat_lift.2 ⟨⟨h1, h2, h3⟩, h⟩
class LookZ (P : ab) (r : Nat) (k : outParam IntKind) (f : outParam (Int -> Option Value)) (R : outParam ab) : Prop where
 eq : P = (aa (az r k f) (R))
instance (priority := 100) [h : LookZ P r k f R] : LookZ (aa (A) (P)) r k f (aa (A) (R)) := ⟨by rw [h.eq, aR]⟩
instance (priority := 150) [h : LookZ (aa (A) (aa (B) (P))) r k f R] : LookZ (aa ((aa (A) (B))) (P)) r k f R := ⟨by rw [ak]; exact h.eq⟩
instance (priority := 200) : LookZ (aa (az r k f) (R)) r k f R := ⟨rfl⟩
instance (priority := 50) : LookZ (az r k f) r k f emp := ⟨(cR _).symm⟩
variable {d : Option Nat} {ty : TypeId} {pos : String} {aft : Array Edge} {g : Option (Nat × Bool)} {x y z : Operand} {t : TypeId} {r : Nat} {k : IntKind} {m : Int} {zv v u : Value} {f : Int -> Option Value}
theorem aN [hm : MapI prog t k zv] {ok : Bool} (hx : ev E x = some (.map (some r))) (hy : ev E y = some (.int k m)) [hT : LookZ P r k f R] (fo : Option Value) (hf : f m = fo) (hv : (bif ok then .tuple #[fo.getD zv, .bool fo.isSome] else fo.getD zv) = v) :
  OpV prog σ n E P ⟨d, .lookup t x y ok, ty, pos, aft, g⟩ v := fun _ w ha hw => by
 rw [hT.eq] at hw
 obtain ⟨es, c, k1, k2, k3, hs⟩ := nF hw
 obtain ⟨fo', h1', h2', _⟩ := ji (m := m) es 0 k1
 rw [k3 m, hf] at h2'
 obtain ⟨kt, e, h1, h0, h2⟩ := hm.spec
 have hb := hs.blk
 have hck := MapKept.run_checkKey (w := w) (k := .int k m) h0 rfl es.toArray.isEmpty 9999
 have hfk := MapKept.run_findKey (w := w) h0 h1'
 subst hv
 simp only [execOp, ha.ev hx, ha.ev hy, Instr.lookup, Sem.run_bind, run_underlying h1, Result.andThen_ok, run_getObj_map w r es.toArray c hb, hck, hfk, Sem.run_pure]
 cases fo' with
 | none => 
  simp only [Option.map_none] at h2'
  subst h2'
  cases ok <;> simp only [Sem.run_bind, h2 w, Result.andThen_ok, Sem.run_pure, Option.getD_none, Option.isSome_none, cond_true, cond_false] <;> rfl
 | some p =>
  simp only [Option.map_some] at h2'
  subst h2'
  cases ok <;> simp only [Sem.run_bind, Sem.run_pure, Result.andThen_ok, Option.getD_some, Option.isSome_some, cond_true, cond_false] <;> rfl
theorem rW {i : Nat} {e0 : MapEntry} {v : Value} (h : es[i]? = some e0) (hk : e0.key = .int k m) : (es.modify i fun e => { e with key := .int k m, val := v }).map (fun e => ik e.key) = es.map (fun e => ik e.key) := by
 apply List.ext_getElem?
 intro j
 rw [List.getElem?_map, List.getElem?_map, List.getElem?_modify]
 by_cases hj : i = j
 ·subst hj; rw [h]; simp [hk]
 ·simp only [hj, if_false]
  cases es[j]? <;> rfl
theorem dist_iff : re es ↔ (es.map (fun e => ik e.key)).Pairwise (· ≠ ·) := by
 unfold re
 rw [List.pairwise_map]
theorem xm {m m' : Int} {k : IntKind} {v : Value} : ∀ {es : List MapEntry} {i : Nat} {e : MapEntry}, re es -> es[i]? = some e -> e.key = .int k m -> lk m' (es.modify i fun e => { e with key := .int k m, val := v }) = if m' = m then some v else lk m' es
 | [], i, e, _, h, _ => by simp at h
 | a :: es, 0, e, hd, h, hk => by
  simp only [List.getElem?_cons_zero, Option.some.injEq] at h
  subst h
  have hk' : ik a.key = m := by rw [hk]; rfl
  show (if m = m' then some v else lk m' es) = if m' = m then some v else (if ik a.key = m' then some a.val else lk m' es)
  rw [hk']
  by_cases hm : m = m'
  ·rw [if_pos hm, if_pos hm.symm]
  ·rw [if_neg hm, if_neg (fun e => hm e.symm), if_neg hm]
 | a :: es, i + 1, e, hd, h, hk => by
  rw [List.getElem?_cons_succ] at h
  obtain ⟨h1, h2⟩ := List.pairwise_cons.1 hd
  have hne : ik a.key ≠ m := fun e' => h1 e (List.mem_of_getElem? h) (by rw [e', hk]; rfl)
  simp only [List.modify_succ_cons, lk]
  rw [xm h2 h hk]
  by_cases hm : m' = m
  ·subst hm; rw [if_neg hne, if_pos rfl, if_pos rfl]
  ·rw [if_neg hm, if_neg hm]
theorem xo {m m' : Int} : ∀ {es : List MapEntry} {i : Nat} {e : MapEntry}, re es -> es[i]? = some e -> ik e.key = m -> lk m' (es.eraseIdx i) = if m' = m then none else lk m' es
 | [], i, e, _, h, _ => by simp at h
 | a :: es, 0, e, hd, h, hk => by
  simp only [List.getElem?_cons_zero, Option.some.injEq] at h
  subst h
  obtain ⟨h1, h2⟩ := List.pairwise_cons.1 hd
  simp only [List.eraseIdx_cons_zero, lk, hk]
  by_cases hm : m' = m
  ·subst hm; rw [if_pos rfl]; exact uA fun e he => fun e' => h1 e he (by rw [hk, e'])
  ·rw [if_neg hm, if_neg (fun e => hm e.symm)]
 | a :: es, i + 1, e, hd, h, hk => by
  rw [List.getElem?_cons_succ] at h
  obtain ⟨h1, h2⟩ := List.pairwise_cons.1 hd
  have hne : ik a.key ≠ m := fun e' => h1 e (List.mem_of_getElem? h) (by rw [e', hk])
  simp only [List.eraseIdx_cons_succ, lk]
  rw [xo h2 h hk]
  by_cases hm : m' = m
  ·subst hm; rw [if_neg hne, if_pos rfl, if_pos rfl]
  ·rw [if_neg hm, if_neg hm]
theorem dh [hm : MapI prog t k zv] (hx : ev E x = some (.map (some r))) (hy : ev E y = some (.int k m)) (hz : ev E z = some v) [hT : LookZ P r k f R] :
  OpX prog σ n E P ⟨none, .mapUpdate t x y z, ty, pos, aft, g⟩ (fun _ : Unit => True) (fun _ => E) (fun _ => (aa (az r k (fun m' => if m' = m then some v else f m')) (R))) := by
 refine gL rfl fun a w ha hw => ?_
 rw [hT.eq] at hw
 obtain ⟨es, c, k1, k2, k3, hs⟩ := nF hw
 obtain ⟨fo, h1', h2', h3'⟩ := ji (m := m) es 0 k1
 obtain ⟨kt, e, h1, h0, h2⟩ := hm.spec
 have hb := hs.blk
 have hck := MapKept.run_checkKey (w := w) (k := .int k m) h0 rfl false 9999
 have hfk := MapKept.run_findKey (w := w) h0 h1'
 cases fo with
 | none =>
  simp only [Option.map_none] at h2'
  refine ⟨(), _, trivial, ?_, jO (es := es ++ [⟨.int k m, v, c⟩]) (c := c + 1) ?_ ?_ ?_ (lt (c' := c + 1) hs)⟩
  ·simp only [execOp, ha.ev hx, ha.ev hy, ha.ev hz, Instr.mapUpdate, Sem.run_bind, run_underlying h1, Result.andThen_ok, run_getObj_map w r es.toArray c hb, hck, hfk, dZ _ hb, Sem.run_pure, List.push_toArray]
  ·intro e he
   rcases List.mem_append.1 he with he | he
   ·exact k1 e he
   ·rw [List.mem_singleton.1 he]; exact ⟨m, rfl⟩
  ·refine List.pairwise_append.2 ⟨k2, List.pairwise_singleton _ _, fun a ha b hb => ?_⟩
   rw [List.mem_singleton.1 hb]
   exact zV h2'.symm a ha
  ·intro m'
   rw [ve, k3 m']
   by_cases hm : m' = m
   ·subst hm; rw [<- k3, <- h2', if_pos rfl]; simp [lk, ik]
   ·rw [if_neg hm, show lk m' [(⟨.int k m, v, c⟩ : MapEntry)] = none from uA fun e he => by rw [List.mem_singleton.1 he]; exact fun e => hm e.symm]
    cases f m' <;> rfl
 | some p =>
  obtain ⟨i, u⟩ := p
  obtain ⟨_, e0, h4, h5⟩ := h3' i u rfl
  rw [Nat.sub_zero] at h4
  have hkk : (es[i]?.map (·.key)).getD (.int k m) = .int k m := by rw [h4]; exact h5
  refine ⟨(), _, trivial, ?_, jO (es := es.modify i fun e => { e with key := .int k m, val := v }) (c := c) ?_ ?_ ?_ (lt (c' := c) hs)⟩
  ·have hes : es.toArray.modify i (fun e => { e with key := .int k m, val := v }) = (es.modify i fun e => { e with key := .int k m, val := v }).toArray := Array.toList_inj.1 (by rw [Array.toList_modify])
   simp only [execOp, ha.ev hx, ha.ev hy, ha.ev hz, Instr.mapUpdate, Sem.run_bind, run_underlying h1, Result.andThen_ok, run_getObj_map w r es.toArray c hb, hck, hfk, List.getElem?_toArray, hkk, vg, dZ _ hb, Sem.run_pure, hes]
  ·intro e he
   obtain ⟨j, hj⟩ := List.mem_iff_getElem?.1 he
   rw [List.getElem?_modify] at hj
   cases hq : es[j]? with
   | none => rw [hq] at hj; split at hj <;> cases hj
   | some e1 =>
    rw [hq] at hj
    by_cases hij : i = j
    ·simp [hij] at hj; rw [<- hj]; exact ⟨m, rfl⟩
    ·simp [hij] at hj; rw [<- hj]; exact k1 _ (List.mem_of_getElem? hq)
  ·rw [dist_iff, rW h4 h5]; exact dist_iff.1 k2
  ·intro m'; rw [xm k2 h4 h5, k3 m']
theorem wY {tk : TypeId} [hm : MapI prog t k zv] (hx : ev E x = some (.map (some r))) (hy : ev E y = some (.int k m)) [hT : LookZ P r k f R] (hf : (f m).isSome = true) :
  OpX prog σ n E P ⟨none, .call ⟨.builtin .delete, #[x, y], #[t, tk]⟩, ty, pos, aft, g⟩ (fun _ : Unit => True) (fun _ => E) (fun _ => (aa (az r k (fun m' => if m' = m then none else f m')) (R))) := by
 refine jY (val := fun _ => .tuple #[]) rfl fun a w ha hw => ?_
 rw [hT.eq] at hw
 obtain ⟨es, c, k1, k2, k3, hs⟩ := nF hw
 obtain ⟨fo, h1', h2', h3'⟩ := ji (m := m) es 0 k1
 obtain ⟨kt, e, h1, h0, h2⟩ := hm.spec
 have hb := hs.blk
 have hck := MapKept.run_checkKey (w := w) (k := .int k m) h0 rfl es.toArray.isEmpty 9999
 have hfk := MapKept.run_findKey (w := w) h0 h1'
 cases fo with
 | none =>
  rw [k3 m] at h2'
  simp only [Option.map_none] at h2'
  rw [<- h2'] at hf; cases hf
 | some p =>
  obtain ⟨i, u⟩ := p
  obtain ⟨_, e0, h4, h5⟩ := h3' i u rfl
  rw [Nat.sub_zero] at h4
  have hlt : i < es.toArray.size := by simpa using (List.getElem?_eq_some_iff.1 h4).1
  have hes : es.toArray.eraseIdxIfInBounds i = (es.eraseIdx i).toArray := by rw [Array.eraseIdxIfInBounds, dif_pos hlt]; exact Array.toList_inj.1 (by rw [Array.toList_eraseIdx])
  refine ⟨(), _, trivial, ?_, jO (es := es.eraseIdx i) (c := c) ?_ ?_ ?_ (lt (c' := c) hs)⟩
  ·simp only [execOp, resolve, List.map_toArray, List.map_cons, List.map_nil, ha.ev hx, ha.ev hy, Sem.run_bind, Sem.run_pure, Result.andThen_ok, invoke, builtin, Builtin.delete_, List.getElem?_toArray, List.getElem?_cons_zero, List.getElem?_cons_succ, run_underlying h1, run_getObj_map w r es.toArray c hb, hck, hfk, dZ _ hb, hes]
  ·exact fun e he => k1 e (List.mem_of_mem_eraseIdx he)
  ·exact List.Pairwise.sublist (List.eraseIdx_sublist ..) k2
  ·intro m'; rw [xo (m := m) k2 h4 (by rw [h5]; rfl), k3 m']
def mapc (r : Nat) (k : IntKind) (c : Int -> Int) : ab := ex fun f : Int -> Option Value => (aa (lift (∀ m, (f m).getD (.int .i64 0) = .int .i64 (c m))) (az r k f))
theorem mapc.of (h : ∀ m, (f m).getD (.int .i64 0) = .int .i64 (c m)) : Ent (az r k f) (mapc r k c) := Ent.trans (Ent.lift h) (bh (f := fun f : Int -> Option Value => (aa (lift (∀ m, (f m).getD (.int .i64 0) = .int .i64 (c m))) (az r k f))) f)
class LookG (P : ab) (r : Nat) (k : outParam IntKind) (c : outParam (Int -> Int)) (R : outParam ab) : Prop where
 eq : P = (aa (mapc r k c) (R))
instance (priority := 100) [h : LookG P r k c R] : LookG (aa (A) (P)) r k c (aa (A) (R)) := ⟨by rw [h.eq, aR]⟩
instance (priority := 150) [h : LookG (aa (A) (aa (B) (P))) r k c R] : LookG (aa ((aa (A) (B))) (P)) r k c R := ⟨by rw [ak]; exact h.eq⟩
instance (priority := 200) : LookG (aa (mapc r k c) (R)) r k c R := ⟨rfl⟩
instance (priority := 50) : LookG (mapc r k c) r k c emp := ⟨(cR _).symm⟩
theorem eh [hm : MapI prog t k (.int .i64 0)] (hx : ev E x = some (.map (some r))) (hy : ev E y = some (.int k m)) [hT : LookG P r k c R] (j : Int) (hj : c m = j) :
  OpV prog σ n E P ⟨d, .lookup t x y false, ty, pos, aft, g⟩ (.int .i64 j) := fun a w ha hw => by
 rw [hT.eq] at hw
 obtain ⟨f, h1⟩ := sat_ex.1 hw
 rw [ak] at h1
 obtain ⟨h2, h3⟩ := sat_lift.1 h1
 exact aN (prog := prog) (σ := σ) (n := n) (P := (aa (az r k f) (R))) (ok := false) (zv := .int .i64 0) hx hy (f m) rfl (by rw [cond_false, h2, hj]) a w ha h3
theorem ga [hm : MapI prog t k (.int .i64 0)] {j : Int} (hx : ev E x = some (.map (some r))) (hy : ev E y = some (.int k m)) (hz : ev E z = some (.int .i64 j)) [hT : LookG P r k c R] :
  OpX prog σ n E P ⟨none, .mapUpdate t x y z, ty, pos, aft, g⟩ (fun _ : Unit => True) (fun _ => E) (fun _ => (aa (mapc r k (fun m' => if m' = m then j else c m')) (R))) := by
 intro a w ha hw Kn Q hk
 rw [hT.eq] at hw
 obtain ⟨f, h1⟩ := sat_ex.1 hw
 rw [ak] at h1
 obtain ⟨h2, h3⟩ := sat_lift.1 h1
 refine dh (prog := prog) (σ := σ) (n := n) (P := (aa (az r k f) (R))) hx hy hz a w ha h3 Kn Q fun x' a' w' _ ha' hs' => hk () a' w' trivial ha' (hs'.ent (Ent.frame (mapc.of fun m' => ?_) R))
 by_cases hm : m' = m
 ·simp [hm]
 ·simp only [hm, if_false]; exact h2 m'
end
section
variable {prog : Program} {σ : World} {n : Nat} {E : Env} {P R F : ab}
theorem zJ {d : Nat} {x y : Operand} {t e m B k : Nat} {ty : TypeId} {pos : String} {aft : Array Edge} {g : Option (Nat × Bool)} {zs news : List Value} {A : Option Addr × Nat} {u : Value} [Slc prog t e m] [Zer prog e zs] [Byt prog e B] (hx : ev E x = some (.slice A.1 0 A.2)) (hy : ev E y = some u) [hT : FOwn P e m (.slice A.1 0 A.2) 0 [] R]
  (hsrc : Src (aa (Ow e m (.slice A.1 0 A.2) 0 []) (R)) u k news) (hzl : zs.length = m) (hm : Nat.blt 0 m = true) (hl : news.length = k * m) (h1 : news.all (fun u => u.oneCell') = true) (h63 : Nat.ble k maxLen = true) (hB : Nat.ble (k * B) 140737488355328 = true) (hd : Nat.blt d n = true) (hk : Nat.blt 0 k = true) :
  OpX prog σ n E P ⟨some d, .call ⟨.builtin .append, #[x, y], #[t, t]⟩, ty, pos, aft, g⟩ (fun _ : Nat × Nat × Nat => True) (fun r => (d, .slice (some (ad r.1 r.2.1)) k r.2.2) :: E) (fun r => (aa (Ow e m (.slice (some (ad r.1 r.2.1)) k r.2.2) k news) (R))) := by
 intro a w ha hs Kn Q hK
 have hk0 : 0 < k := Nat.le_of_ble_eq_true hk
 refine cO (prog := prog) (σ := σ) (n := n) (B := B) hx hy hsrc hzl (Nat.le_of_ble_eq_true hm) hl (List.all_eq_true.1 h1) (by rw [Nat.zero_add]; exact Nat.le_of_ble_eq_true h63) (by rw [Nat.zero_add]; exact Nat.le_of_ble_eq_true hB) hd a w ha hs Kn Q fun r a' w' _ ha' hs' => ?_
 rw [Nat.zero_add] at ha' hs'
 rw [List.nil_append] at hs'
 obtain ⟨r1, r2⟩ := r
 rcases fg hs' with ⟨_, g2, _⟩ | ⟨b, cap, pre, post, g1, _⟩
 ·omega
 ·simp only [Value.slice.injEq] at g1
  obtain ⟨g1, _, g2⟩ := g1
  subst g1 g2
  exact hK (b, pre.length, r2) a' w' trivial ha' hs'
theorem H1 (A : Option Addr) (n c m : Nat) : jF A (Int.toNat 0) n c m = .slice A n c := by
 unfold jF
 cases A with
 | none => simp
 | some a => cases a; simp [Addr.add]
end
end Go.SLA
