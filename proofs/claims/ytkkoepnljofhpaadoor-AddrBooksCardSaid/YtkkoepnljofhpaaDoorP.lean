/- Maps whose keys are structs or arrays of plain cells and whose values are pointers: a new one, what is at a key, putting, taking out. -/
import Derived.Test.YtkkoepnljofhpaaDoorY
import Derived.DeepKeys3
import Derived.MapKept
set_option linter.unusedVariables false
set_option linter.unusedSimpArgs false
namespace Go.SLA

section
variable {P : Program} (w : World)
theorem parts_fields (D : Nat) (xs : Array Value) : ∀ (fs : List Field) (off : Nat) (ks : List CK), flatFs P (flatK P D) fs off = some ks → Shape ks ((xs.toList.drop off).take ks.length) →
    ∀ f ∈ fs, ∃ k a, flatK P D f.type = some k ∧ (part f.type xs f.offset).run P w = .ok a w ∧ a.formed P f.type = true ∧ Shape k a.cells.toList
  | [], _, _, _, _ => fun f hf => by cases hf
  | f :: fs, off, ks, h, hx => by
    simp only [flatFs] at h
    split at h
    · rename_i k hk
      split at h
      · rename_i hc
        cases hr : flatFs P (flatK P D) fs (off + k.length) with
        | none => simp [hr] at h
        | some ks' =>
          simp only [hr, Option.map_some, Option.some.injEq] at h
          subst h
          rw [List.length_append, cut_add] at hx
          have h1 := hx.take
          have lx := hx.len
          simp only [List.length_append, List.length_take, List.length_drop] at lx
          have ex : ((xs.toList.drop off).take k.length).length = k.length := by rw [List.length_take, List.length_drop]; omega
          rw [List.take_left' ex, List.drop_left' ex] at h1
          intro g hg
          rcases List.mem_cons.1 hg with rfl | hg
          · obtain ⟨a, pa, fa, ca⟩ := part_flat w hk h1.1
            exact ⟨k, a, hk, by rw [hc.1]; exact pa, fa, by rw [ca]; exact h1.1⟩
          · exact parts_fields D xs fs (off + k.length) ks' hr h1.2 g hg
      · cases h
    · cases h
theorem parts_items (D : Nat) {e : TypeId} {k : List CK} (hk : flatK P D e = some k) (xs : Array Value) : ∀ (n i : Nat), Shape (List.replicate n k).flatten ((xs.toList.drop (i * k.length)).take (n * k.length)) →
    ∀ j ∈ List.range' i n, ∃ a, (part e xs (j * k.length)).run P w = .ok a w ∧ a.formed P e = true ∧ Shape k a.cells.toList
  | 0, i, _ => fun j hj => by simp at hj
  | n + 1, i, hx => by
    have hm : (n + 1) * k.length = k.length + n * k.length := by rw [Nat.add_mul, Nat.one_mul, Nat.add_comm]
    have hi : i * k.length + k.length = (i + 1) * k.length := by rw [Nat.add_mul, Nat.one_mul]
    rw [hm, cut_add, hi] at hx
    rw [List.replicate_succ, List.flatten_cons] at hx
    have h1 := hx.take
    have lx := hx.len
    simp only [List.length_append, List.length_take, List.length_drop, List.length_flatten, List.map_replicate, List.sum_replicate_nat] at lx
    have ex : ((xs.toList.drop (i * k.length)).take k.length).length = k.length := by rw [List.length_take, List.length_drop]; omega
    rw [List.take_left' ex, List.drop_left' ex] at h1
    intro j hj
    rw [List.range'_succ] at hj
    rcases List.mem_cons.1 hj with rfl | hj
    · obtain ⟨a, pa, fa, ca⟩ := part_flat w hk h1.1
      exact ⟨a, pa, fa, by rw [ca]; exact h1.1⟩
    · exact parts_items D hk xs n (i + 1) h1.2 j hj
end
def CheckF (P : Program) (em : Bool) (dd : Nat) (e : TypeId) (ks : List CK) : Prop :=
  ∀ (w : World) (a : Value), a.formed P e = true → Shape ks a.cells.toList → (Instr.checkKey em dd e a).run P w = .ok () w
theorem checkF {P : Program} (em : Bool) (d : Nat) : ∀ (D : Nat) (t : TypeId) (ks : List CK), flatK P D t = some ks → P.keyTypeAt D t = true → CheckF P em (d + D) t ks
  | 0, _, _, h, _ => by simp [flatK] at h
  | D + 1, t, ks, h, hk => by
    intro w a fa sa
    rw [show d + (D + 1) = (d + D) + 1 from rfl]
    simp only [flatK] at h
    unfold Program.keyTypeAt at hk
    split at h
    · rename_i k hu
      cases a <;> simp [Value.formed, hu] at fa <;> simp [Instr.checkKey, run_underlying hu]
    · rename_i hu
      cases a <;> simp [Value.formed, hu] at fa <;> simp [Instr.checkKey, run_underlying hu]
    · rename_i hu
      cases a <;> simp [Value.formed, hu] at fa <;> simp [Instr.checkKey, run_underlying hu]
    · rename_i fs hu
      simp only [hu, Bool.and_eq_true, Bool.not_eq_true'] at hk
      split at h
      · rename_i ks' hks
        split at h
        · rename_i hlen
          simp only [Option.some.injEq] at h
          subst h
          cases a <;> simp only [Value.formed, hu, Bool.false_eq_true] at fa
          rename_i xs
          simp only [Value.cells] at sa
          have lx := sa.len
          have each := parts_fields w D xs fs.toList 0 ks' hks (by rw [List.drop_zero, List.take_of_length_le (by omega)]; exact sa)
          have deep : ∀ f ∈ fs.toList, f.name ≠ "_" ∧ ∀ k, flatK P D f.type = some k → CheckF P em (d + D) f.type k := fun f hf => by
            have := Array.all_eq_true_iff_forall_mem.1 hk.1.1 f (Array.mem_toList_iff.1 hf)
            simp only [Bool.and_eq_true, bne_iff_ne, ne_eq] at this
            exact ⟨this.1, fun k hk' => checkF em d D f.type k hk' this.2⟩
          rw [Instr.checkKey]
          simp only [Sem.run_bind, run_underlying hu, Result.andThen_ok]
          rw [← Array.forIn_toList]
          clear hks
          generalize fs.toList = L at each deep
          induction L with
          | nil => simp
          | cons f L ih =>
            obtain ⟨k, a, hka, p1, f1, c1⟩ := each f (by simp)
            obtain ⟨hn, hp⟩ := deep f (by simp)
            have p2 := hp k hka w a f1 c1
            simp only [List.forIn_cons, Sem.run_bind, hn, ne_eq, not_false_eq_true, if_true, Result.andThen_ok, p1, p2, Sem.run_pure]
            exact ih (fun y hy => each y (by simp [hy])) (fun y hy => deep y (by simp [hy]))
        · cases h
      · cases h
    · rename_i n e hu
      simp only [hu] at hk
      split at h
      · rename_i k hk2
        split at h
        · rename_i hc
          simp only [Option.some.injEq] at h
          subst h
          cases a <;> simp only [Value.formed, hu, Bool.false_eq_true] at fa
          rename_i xs
          simp only [Value.cells] at sa
          have lx := sa.len
          simp only [List.length_flatten, List.map_replicate, List.sum_replicate_nat] at lx
          have hie : ∃ i, P.info? e = some i := by
            cases D with
            | zero => simp [flatK] at hk2
            | succ D' =>
              simp only [flatK] at hk2
              cases hue : P.underlying e with
              | none => simp [hue] at hk2
              | some _ => exact info_of_underlying hue
          obtain ⟨i, hi⟩ := hie
          have each := parts_items w D hk2 xs n 0 (by rw [Nat.zero_mul, List.drop_zero, List.take_of_length_le (by omega)]; exact sa)
          have IH := checkF em d D e k hk2 hk
          rw [Instr.checkKey]
          simp only [Sem.run_bind, run_underlying hu, Result.andThen_ok]
          simp only [Std.Legacy.Range.forIn_eq_forIn_range', Std.Legacy.Range.size, Nat.sub_zero, Nat.add_one_sub_one, Nat.div_one]
          generalize List.range' 0 n = is at each
          induction is with
          | nil => simp
          | cons j is ih =>
            obtain ⟨a, p1, f1, c1⟩ := each j (by simp)
            have p2 := IH w a f1 c1
            rw [← hc.1] at p1
            simp only [List.forIn_cons, Sem.run_bind, run_sizeOf w hi, Result.andThen_ok, p1, p2, Sem.run_pure]
            exact ih (fun y hy => each y (by simp [hy]))
        · cases h
      · cases h
    · cases h

theorem EqT.formed {prog : Program} {t : TypeId} {ks : List CK} [h : EqT prog t ks] {l : List Value} (hl : Shape ks l) : (Value.agg l.toArray).formed prog t = true := by
  obtain ⟨h1, h2, _, h4⟩ := h.b
  obtain ⟨d, hd, h5⟩ := undB_spec h4
  have hll := hl.len
  simp only [flatK, hd] at h1
  unfold isAggD at h5
  split at h5
  · rename_i fs
    simp only at h1
    split at h1
    · split at h1
      · rename_i hc
        simp only [Option.some.injEq] at h1
        subst h1
        simp [Value.formed, hd, hc, hll]
      · cases h1
    · cases h1
  · rename_i m e
    simp only at h1
    split at h1
    · split at h1
      · rename_i hc
        simp only [Option.some.injEq] at h1
        subst h1
        simp only [List.length_flatten, List.map_replicate, List.sum_replicate_nat] at hll
        simp [Value.formed, hd, hc.2, hll]
      · cases h1
    · cases h1
  · cases h5
theorem EqT.check {prog : Program} {t : TypeId} {ks : List CK} [h : EqT prog t ks] {l : List Value} (hl : Shape ks l) (em : Bool) (w : World) : (Instr.checkKey em 10000 t (.agg l.toArray)).run prog w = .ok () w := by
  obtain ⟨h1, h2, _, _⟩ := h.b
  exact checkF (P := prog) em 9980 20 t ks h1 h2 w _ (EqT.formed (prog := prog) hl) (by simpa [Value.cells] using hl)

/-- What entries are, key by key. -/
structure MapOk (ks : List CK) (es : List MapEntry) (f : List Value → Option Value) : Prop where
  sh : ∀ e ∈ es, ∃ l, e.key = .agg l.toArray ∧ Shape ks l
  nd : (es.map (·.key)).Nodup
  iff : ∀ k v, f k = some v ↔ ∃ e ∈ es, e.key = .agg k.toArray ∧ e.val = v
def mapp (r : Nat) (ks : List CK) (f : List Value → Option Value) : HProp := ex fun x : Array MapEntry × Nat => (sep (lift (MapOk ks x.1.toList f)) (blk r (.map x.1 x.2)))

theorem agg_inj {k l : List Value} (h : Value.agg k.toArray = .agg l.toArray) : k = l := by
  simp only [Value.agg.injEq] at h
  exact List.toArray_inj h |> id
variable {prog : Program} {σ : World} {n : Nat} {E : Env} {Pr R : HProp}
theorem findAsking_run {t : TypeId} {ks : List CK} [EqT prog t ks] {k : List Value} (hk : Shape ks k) (w : World) : ∀ (es : List MapEntry) (i : Nat), (∀ e ∈ es, ∃ l, e.key = .agg l.toArray ∧ Shape ks l) →
    ((Instr.findAsking t (.agg k.toArray) es i).run prog w = .ok none w ∧ ∀ e ∈ es, e.key ≠ .agg k.toArray) ∨
    ∃ j e, (Instr.findAsking t (.agg k.toArray) es i).run prog w = .ok (some (i + j, e.val)) w ∧ es[j]? = some e ∧ e.key = .agg k.toArray
  | [], i, _ => .inl ⟨by simp [Instr.findAsking], by simp⟩
  | e :: es, i, hall => by
    obtain ⟨l, hl, sl⟩ := hall e (by simp)
    obtain ⟨c, hc, hiff⟩ := EqT.run (prog := prog) (t := t) hk sl w
    have hc' : (Op.equal t (.agg k.toArray) e.key).run prog w = .ok c w := by rw [hl]; exact hc
    cases c
    · have hne : e.key ≠ .agg k.toArray := fun h => by
        rw [hl] at h
        have := hiff.2 (agg_inj h).symm
        cases this
      rcases findAsking_run (t := t) hk w es (i + 1) (fun y hy => hall y (by simp [hy])) with ⟨h1, h2⟩ | ⟨j, e', h1, h2, h3⟩
      · exact .inl ⟨by simp [Instr.findAsking, hc', h1], fun y hy => by
          rcases List.mem_cons.1 hy with rfl | hy
          · exact hne
          · exact h2 y hy⟩
      · exact .inr ⟨j + 1, e', by simp [Instr.findAsking, hc', h1, Nat.add_assoc, Nat.add_comm 1 j], by simpa using h2, h3⟩
    · exact .inr ⟨0, e, by simp [Instr.findAsking, hc'], rfl, by rw [hl, hiff.1 rfl]⟩
theorem findKey_run {t : TypeId} {ks : List CK} [h : EqT prog t ks] {k : List Value} (hk : Shape ks k) (w : World) {es : List MapEntry} {f : List Value → Option Value} (ho : MapOk ks es f) :
    ((Instr.findKey t (.agg k.toArray) es).run prog w = .ok none w ∧ f k = none ∧ ∀ e ∈ es, e.key ≠ .agg k.toArray) ∨
    ∃ j e, (Instr.findKey t (.agg k.toArray) es).run prog w = .ok (some (j, e.val)) w ∧ es[j]? = some e ∧ e.key = .agg k.toArray ∧ f k = some e.val := by
  obtain ⟨_, _, _, h4⟩ := h.b
  obtain ⟨d, hd, h5⟩ := undB_spec h4
  rw [run_findKey_eq w (by rw [hd]; unfold isAggD at h5; split at h5 <;> first | rfl | cases h5)]
  rcases findAsking_run (prog := prog) (t := t) hk w es 0 ho.sh with ⟨h1, h2⟩ | ⟨j, e, h1, h2, h3⟩
  · refine .inl ⟨h1, ?_, h2⟩
    cases hf : f k with
    | none => rfl
    | some v =>
      obtain ⟨e, he, h3, _⟩ := (ho.iff k v).1 hf
      exact absurd h3 (h2 e he)
  · exact .inr ⟨j, e, by simpa using h1, h2, h3, (ho.iff k e.val).2 ⟨e, List.mem_of_getElem? h2, h3, rfl⟩⟩

/-- A map type with keys of type k whose values are pointers. -/
def mapB (prog : Program) (t k : TypeId) : Bool := undB prog t (fun | .map k' e => Nat.beq k' k && (match prog.info? e with | some i => (match i.zero with | some (.pointer none) => true | _ => false) | none => false) | _ => false)
class MapP (prog : Program) (t : TypeId) (k : outParam TypeId) : Prop where
  b : mapB prog t k = true
theorem MapP.spec {t k : TypeId} (h : MapP prog t k) : ∃ e, prog.underlying t = some (.map k e) ∧ ∀ w, (zeroValue e).run prog w = .ok (.pointer none) w := by
  obtain ⟨d, hd, h1⟩ := undB_spec h.b
  split at h1
  · rename_i k' e
    simp only [Bool.and_eq_true] at h1
    obtain ⟨h2, h3⟩ := h1
    have := Nat.eq_of_beq_eq_true h2
    subst this
    refine ⟨e, hd, fun w => ?_⟩
    split at h3
    · rename_i i hi
      split at h3
      · rename_i hz
        simp [zeroValue, run_typeInfo' hi, hz]
      · cases h3
    · cases h3
  · cases h1
variable {d : Option Nat} {ty : TypeId} {pos : String} {aft : Array Edge} {g : Option (Nat × Bool)} {x y z : Operand} {t kt : TypeId} {ks : List CK} {r : Nat} {f : List Value → Option Value} {k : List Value} {v : Value}
theorem sat_mapp {w : World} (h : Sat σ w (sep (mapp r ks f) (R))) : ∃ es c, w.heap[r]? = some (.map es c) ∧ MapOk ks es.toList f ∧ Sat σ w (sep (blk r (.map es c)) (R)) := by
  obtain ⟨⟨es, c⟩, hx⟩ := sat_ex.1 h
  simp only [sep_assoc] at hx
  obtain ⟨h1, h2⟩ := sat_lift.1 hx
  exact ⟨es, c, h2.blk, h1, h2⟩
theorem lookup_run [hm : MapP prog t kt] [EqT prog kt ks] (hk : Shape ks k) {w : World} (hs : Sat σ w (sep (mapp r ks f) (R))) (c : Bool) :
    (Instr.lookup t (.map (some r)) (.agg k.toArray) c).run prog w = .ok (if c then .tuple #[(f k).getD (.pointer none), .bool (f k).isSome] else (f k).getD (.pointer none)) w := by
  obtain ⟨e, h1, h2⟩ := hm.spec
  obtain ⟨es, clk, hb, ho, _⟩ := sat_mapp hs
  have hck := EqT.check (prog := prog) (t := kt) hk es.isEmpty w
  rcases findKey_run (prog := prog) (t := kt) hk w ho with ⟨h3, h4, _⟩ | ⟨j, e', h3, _, _, h4⟩
  · simp [Instr.lookup, run_underlying h1, run_getObj_map w r es clk hb, hck, h3, h4, h2 w]
  · simp [Instr.lookup, run_underlying h1, run_getObj_map w r es clk hb, hck, h3, h4]
theorem opv_lookup [MapP prog t kt] [EqT prog kt ks] (hx : ev E x = some (.map (some r))) (hy : ev E y = some (.agg k.toArray)) (hk : Shape ks k) [hT : Take Pr (mapp r ks f) R] :
    OpV prog σ n E Pr ⟨d, .lookup t x y false, ty, pos, aft, g⟩ ((f k).getD (.pointer none)) := fun _ w ha hw => by
  rw [hT.eq] at hw
  have := lookup_run (prog := prog) (t := t) hk hw false
  simp only [execOp, ha.ev hx, ha.ev hy, Sem.run_bind, this, Result.andThen_ok, Sem.run_pure]
  rfl
theorem opv_lookupOk [MapP prog t kt] [EqT prog kt ks] (hx : ev E x = some (.map (some r))) (hy : ev E y = some (.agg k.toArray)) (hk : Shape ks k) [hT : Take Pr (mapp r ks f) R] :
    OpV prog σ n E Pr ⟨d, .lookup t x y true, ty, pos, aft, g⟩ (.tuple #[(f k).getD (.pointer none), .bool (f k).isSome]) := fun _ w ha hw => by
  rw [hT.eq] at hw
  have := lookup_run (prog := prog) (t := t) hk hw true
  simp only [execOp, ha.ev hx, ha.ev hy, Sem.run_bind, this, Result.andThen_ok, Sem.run_pure]
  rfl
theorem opx_makeMap {d : Nat} (ks : List CK) (hd : Nat.blt d n = true) :
    OpX prog σ n E Pr ⟨some d, .makeMap t none, ty, pos, aft, g⟩ (fun _ : Nat => True) (fun r => (d, .map (some r)) :: E) (fun r => (sep (mapp r ks (fun _ => none)) (Pr))) := by
  refine OpX.of_run rfl hd fun a w ha hs => ?_
  refine ⟨w.heap.size, w.alloc (.map #[] 0), trivial, ?_, ?_⟩
  · have h1 : (Instr.makeMap t none).run prog w = .ok (.map (some w.heap.size)) (w.alloc (.map #[] 0)) := rfl
    simp only [execOp, Option.map_none, Sem.run_bind, h1, Result.andThen_ok, Sem.run_pure]
  · refine (hs.alloc (.map #[] 0)).imp fun h hh => ?_
    obtain ⟨h1, h2, ha, e, hp, hq⟩ := hh
    refine ⟨h1, h2, ha, e, ⟨(#[], 0), fun _ => none, h1, fun b => .inl rfl, by funext b; simp [Heap.join], ⟨⟨fun e he => by simp at he, by simp, fun k v => by simp⟩, rfl⟩, hp⟩, hq⟩
open Classical in
/-- A map with a key put. -/
noncomputable def mput (f : List Value → Option Value) (k : List Value) (v : Value) : List Value → Option Value := fun k' => if k' = k then some v else f k'
open Classical in
/-- A map without a key. -/
noncomputable def mdel (f : List Value → Option Value) (k : List Value) : List Value → Option Value := fun k' => if k' = k then none else f k'
theorem mput_same (f : List Value → Option Value) (k : List Value) (v : Value) : mput f k v k = some v := by unfold mput; rw [if_pos rfl]
theorem mput_other {f : List Value → Option Value} {k k' : List Value} {v : Value} (h : k' ≠ k) : mput f k v k' = f k' := by unfold mput; rw [if_neg h]
theorem mdel_same (f : List Value → Option Value) (k : List Value) : mdel f k k = none := by unfold mdel; rw [if_pos rfl]
theorem mdel_other {f : List Value → Option Value} {k k' : List Value} (h : k' ≠ k) : mdel f k k' = f k' := by unfold mdel; rw [if_neg h]
theorem run_setMap {w : World} {es : Array MapEntry} {c : Nat} (o : Obj) (hb : w.heap[r]? = some (.map es c)) : (setObj r o).run prog w = .ok () { w with heap := w.heap.setIfInBounds r o } := by simp [setObj, Sem.run, hb]
theorem sat_set {w : World} {es es' : Array MapEntry} {c c' : Nat} {f' : List Value → Option Value} (h : Sat σ w (sep (blk r (.map es c)) (R))) (ho : MapOk ks es'.toList f') : Sat σ { w with heap := w.heap.setIfInBounds r (.map es' c') } (sep (mapp r ks f') (R)) := by
  have hb := h.blk
  have hlt : r < w.heap.size := by
    rcases Nat.lt_or_ge r w.heap.size with hl | hl
    · exact hl
    · rw [Array.getElem?_eq_none hl] at hb; cases hb
  have h1 := h.update (w' := { w with heap := w.heap.setIfInBounds r (.map es' c') }) (o' := .map es' c') rfl rfl rfl (by simp [hlt]) (fun k hk => by
    show (w.heap.setIfInBounds r _)[k]? = _
    rw [Array.getElem?_setIfInBounds, if_neg (fun e => hk e.symm)])
  refine h1.imp fun h hh => ?_
  obtain ⟨h1, h2, ha, e, hp, hq⟩ := hh
  exact ⟨h1, h2, ha, e, ⟨(es', c'), fun _ => none, h1, fun b => .inl rfl, by funext b; simp [Heap.join], ⟨ho, rfl⟩, hp⟩, hq⟩
theorem sameBits_sh (m : Nat) : ∀ {ks : List CK} {l : List Value}, Shape ks l → ((l.zip l).all fun (x, y) => Instr.sameBits m x y) = true
  | [], [], _ => rfl
  | c :: ks, v :: l, h => by
    have h1 := sameBits_sh m h.2
    simp only [List.zip_cons_cons, List.all_cons, Bool.and_eq_true]
    refine ⟨?_, h1⟩
    have h2 := h.1
    cases c with
    | int k => obtain ⟨n, rfl⟩ := h2; cases m <;> simp [Instr.sameBits]
    | bool => obtain ⟨n, rfl⟩ := h2; cases m <;> simp [Instr.sameBits]
    | str =>
      obtain ⟨n, rfl⟩ := h2
      have : (n == n) = true := (MapKept.bytes_beq n n).2 rfl
      cases m <;> simp [Instr.sameBits, this]
  | [], _ :: _, h => h.elim
  | _ :: _, [], h => h.elim
theorem keyStays_run {k : List Value} (hk : Shape ks k) (w : World) : (Instr.keyThatStays (.agg k.toArray) (.agg k.toArray)).run prog w = .ok (.agg k.toArray) w := by
  have h : Instr.sameBits 10000 (.agg k.toArray) (.agg k.toArray) = true := by
    show Instr.sameBits (9999 + 1) _ _ = true
    rw [Instr.sameBits]
    have := sameBits_sh 9999 hk
    simpa using this
  simp [Instr.keyThatStays, h]
theorem MapOk.put_new {es : List MapEntry} {c : Nat} (h : MapOk ks es f) (hk : Shape ks k) (hn : ∀ e ∈ es, e.key ≠ .agg k.toArray) (v : Value) : MapOk ks (es ++ [{ key := .agg k.toArray, val := v, born := c }]) (mput f k v) := by
  refine ⟨fun e he => ?_, ?_, fun k' v' => ?_⟩
  · rcases List.mem_append.1 he with he | he
    · exact h.sh e he
    · rw [List.mem_singleton.1 he]; exact ⟨k, rfl, hk⟩
  · rw [List.map_append, List.nodup_append]
    refine ⟨h.nd, by simp, fun a ha b hb => ?_⟩
    obtain ⟨e, he, rfl⟩ := List.mem_map.1 ha
    simp only [List.map_cons, List.map_nil, List.mem_singleton] at hb
    rw [hb]
    exact hn e he
  · by_cases e : k' = k
    · subst e
      rw [mput_same]
      constructor
      · intro h2
        simp only [Option.some.injEq] at h2
        exact ⟨_, List.mem_append_right _ (List.mem_singleton.2 rfl), rfl, h2⟩
      · rintro ⟨e, he, h2, h3⟩
        rcases List.mem_append.1 he with he | he
        · exact absurd h2 (hn e he)
        · rw [List.mem_singleton.1 he] at h3; exact congrArg some h3
    · rw [mput_other e, h.iff]
      constructor
      · rintro ⟨e', he, h2⟩
        exact ⟨e', List.mem_append_left _ he, h2⟩
      · rintro ⟨e', he, h2, h3⟩
        rcases List.mem_append.1 he with he | he
        · exact ⟨e', he, h2, h3⟩
        · rw [List.mem_singleton.1 he] at h2
          exact absurd (agg_inj h2).symm e
theorem nodup_key {es : List MapEntry} (h : (es.map (·.key)).Nodup) {i j : Nat} {a b : MapEntry} (hi : es[i]? = some a) (hj : es[j]? = some b) (e : a.key = b.key) : i = j := by
  have l1 := (List.getElem?_eq_some_iff.1 hi).1
  have l2 := (List.getElem?_eq_some_iff.1 hj).1
  have e1 := (List.getElem?_eq_some_iff.1 hi).2
  have e2 := (List.getElem?_eq_some_iff.1 hj).2
  have hp := List.pairwise_iff_getElem.1 h
  rcases Nat.lt_trichotomy i j with hl | hl | hl
  · exact absurd (show (es.map (·.key))[i]'(by simpa using l1) = (es.map (·.key))[j]'(by simpa using l2) by rw [List.getElem_map, List.getElem_map, e1, e2]; exact e) (hp i j _ _ hl)
  · exact hl
  · exact absurd (show (es.map (·.key))[j]'(by simpa using l2) = (es.map (·.key))[i]'(by simpa using l1) by rw [List.getElem_map, List.getElem_map, e1, e2]; exact e.symm) (hp j i _ _ hl)
theorem MapOk.put_at {es : List MapEntry} {j : Nat} {e0 : MapEntry} (h : MapOk ks es f) (hk : Shape ks k) (hj : es[j]? = some e0) (h0 : e0.key = .agg k.toArray) (v : Value) : MapOk ks (es.modify j fun e => { e with key := .agg k.toArray, val := v }) (mput f k v) := by
  have get : ∀ i : Nat, (es.modify j fun e => { e with key := .agg k.toArray, val := v })[i]? = if j = i then (es[i]?).map (fun e => { e with key := .agg k.toArray, val := v }) else es[i]? := fun i => by
    rw [List.getElem?_modify]
    split <;> cases es[i]? <;> rfl
  have hkeys : (es.modify j fun e => { e with key := .agg k.toArray, val := v }).map (·.key) = es.map (·.key) := by
    refine List.ext_getElem? fun i => ?_
    rw [List.getElem?_map, List.getElem?_map, get]
    split
    · rename_i e; subst e; rw [hj]; exact congrArg some h0.symm
    · rfl
  refine ⟨fun e he => ?_, by rw [hkeys]; exact h.nd, fun k' v' => ?_⟩
  · obtain ⟨i, hi⟩ := List.getElem?_of_mem he
    rw [get] at hi
    split at hi
    · rename_i e; subst e; rw [hj] at hi
      simp only [Option.map_some, Option.some.injEq] at hi
      subst hi
      exact ⟨k, rfl, hk⟩
    · exact h.sh e (List.mem_of_getElem? hi)
  · by_cases e : k' = k
    · subst e
      rw [mput_same]
      constructor
      · intro h2
        simp only [Option.some.injEq] at h2
        refine ⟨_, List.mem_of_getElem? (i := j) (by rw [get, if_pos rfl, hj]; rfl), rfl, h2⟩
      · rintro ⟨e, he, h2, h3⟩
        obtain ⟨i, hi⟩ := List.getElem?_of_mem he
        rw [get] at hi
        split at hi
        · rename_i e'; subst e'; rw [hj] at hi
          simp only [Option.map_some, Option.some.injEq] at hi
          rw [← hi] at h3
          exact congrArg some h3
        · rename_i e'
          exact absurd (nodup_key h.nd hj hi (h0.trans h2.symm)) e'
    · rw [mput_other e, h.iff]
      constructor
      · rintro ⟨e', he, h2, h3⟩
        obtain ⟨i, hi⟩ := List.getElem?_of_mem he
        refine ⟨e', List.mem_of_getElem? (i := i) ?_, h2, h3⟩
        rw [get, if_neg, hi]
        rintro rfl
        rw [hj] at hi
        cases hi
        exact e (agg_inj (h0.symm.trans h2)).symm
      · rintro ⟨e', he, h2, h3⟩
        obtain ⟨i, hi⟩ := List.getElem?_of_mem he
        rw [get] at hi
        split at hi
        · rename_i e''; subst e''; rw [hj] at hi
          simp only [Option.map_some, Option.some.injEq] at hi
          subst hi
          exact absurd (agg_inj h2).symm e
        · exact ⟨e', List.mem_of_getElem? hi, h2, h3⟩
theorem MapOk.del_none {es : List MapEntry} (h : MapOk ks es f) (hn : ∀ e ∈ es, e.key ≠ .agg k.toArray) : MapOk ks es (mdel f k) := by
  refine ⟨h.sh, h.nd, fun k' v' => ?_⟩
  by_cases e : k' = k
  · subst e
    rw [mdel_same]
    constructor
    · intro h; cases h
    · rintro ⟨e, he, h2, _⟩; exact absurd h2 (hn e he)
  · rw [mdel_other e, h.iff]
theorem MapOk.del_at {es : List MapEntry} {j : Nat} {e0 : MapEntry} (h : MapOk ks es f) (hj : es[j]? = some e0) (h0 : e0.key = .agg k.toArray) : MapOk ks (es.eraseIdx j) (mdel f k) := by
  have hsub := List.eraseIdx_sublist es j
  refine ⟨fun e he => h.sh e (hsub.subset he), h.nd.sublist (hsub.map _), fun k' v' => ?_⟩
  by_cases e : k' = k
  · subst e
    rw [mdel_same]
    constructor
    · intro h; cases h
    · rintro ⟨e, he, h2, _⟩
      obtain ⟨i, hi⟩ := List.getElem?_of_mem he
      rw [List.getElem?_eraseIdx] at hi
      split at hi
      · have := nodup_key h.nd hj hi (h0.trans h2.symm); omega
      · have := nodup_key h.nd hj hi (h0.trans h2.symm); omega
  · rw [mdel_other e, h.iff]
    constructor
    · rintro ⟨e', he, h2, h3⟩
      obtain ⟨i, hi⟩ := List.getElem?_of_mem he
      have hij : i ≠ j := by
        rintro rfl
        rw [hj] at hi
        cases hi
        exact e (agg_inj (h0.symm.trans h2)).symm
      rcases Nat.lt_or_gt_of_ne hij with hl | hl
      · exact ⟨e', List.mem_of_getElem? (i := i) (by rw [List.getElem?_eraseIdx, if_pos hl]; exact hi), h2, h3⟩
      · exact ⟨e', List.mem_of_getElem? (i := i - 1) (by rw [List.getElem?_eraseIdx, if_neg (by omega), show i - 1 + 1 = i by omega]; exact hi), h2, h3⟩
    · rintro ⟨e', he, h2, h3⟩
      exact ⟨e', hsub.subset he, h2, h3⟩
theorem opx_mapUpdate [hm : MapP prog t kt] [EqT prog kt ks] (hx : ev E x = some (.map (some r))) (hy : ev E y = some (.agg k.toArray)) (hz : ev E z = some v) (hk : Shape ks k) [hT : Take Pr (mapp r ks f) R] :
    OpX prog σ n E Pr ⟨none, .mapUpdate t x y z, ty, pos, aft, g⟩ (fun _ : Unit => True) (fun _ => E) (fun _ => (sep (mapp r ks (mput f k v)) (R))) := by
  refine OpX.of_skip rfl fun a w ha hw => ?_
  rw [hT.eq] at hw
  obtain ⟨e, h1, h2⟩ := hm.spec
  obtain ⟨es, clk, hb, ho, hw'⟩ := sat_mapp hw
  have hck := EqT.check (prog := prog) (t := kt) hk false w
  rcases findKey_run (prog := prog) (t := kt) hk w ho with ⟨h3, _, h4⟩ | ⟨j, e', h3, h5, h6, _⟩
  · refine ⟨(), _, trivial, ?_, sat_set (es' := es.push { key := .agg k.toArray, val := v, born := clk }) (c' := clk + 1) hw' (by rw [Array.toList_push]; exact ho.put_new hk h4 v)⟩
    simp only [execOp, ha.ev hx, ha.ev hy, ha.ev hz, Instr.mapUpdate, Sem.run_bind, run_underlying h1, Result.andThen_ok, run_getObj_map w r es clk hb, hck, h3, run_setMap _ hb, Sem.run_pure]
  · have h7 : (es[j]?.map (·.key)).getD (.agg k.toArray) = .agg k.toArray := by
      rw [← Array.getElem?_toList, h5]
      exact h6
    refine ⟨(), _, trivial, ?_, sat_set (es' := es.modify j fun e => { e with key := .agg k.toArray, val := v }) (c' := clk) hw' (by rw [Array.toList_modify]; exact ho.put_at hk h5 h6 v)⟩
    simp only [execOp, ha.ev hx, ha.ev hy, ha.ev hz, Instr.mapUpdate, Sem.run_bind, run_underlying h1, Result.andThen_ok, run_getObj_map w r es clk hb, hck, h3, h7, keyStays_run (prog := prog) hk w, run_setMap _ hb, Sem.run_pure]
theorem opx_delete {d : Nat} {tk : TypeId} [hm : MapP prog t kt] [EqT prog kt ks] (hx : ev E x = some (.map (some r))) (hy : ev E y = some (.agg k.toArray)) (hk : Shape ks k) (hd : Nat.blt d n = true) [hT : Take Pr (mapp r ks f) R] :
    OpX prog σ n E Pr ⟨some d, .call ⟨.builtin .delete, #[x, y], #[t, tk]⟩, ty, pos, aft, g⟩ (fun _ : Unit => True) (fun _ => (d, .tuple #[]) :: E) (fun _ => (sep (mapp r ks (mdel f k)) (R))) := by
  refine OpX.of_run rfl hd fun a w ha hw => ?_
  rw [hT.eq] at hw
  obtain ⟨e, h1, h2⟩ := hm.spec
  obtain ⟨es, clk, hb, ho, hw'⟩ := sat_mapp hw
  have hck := EqT.check (prog := prog) (t := kt) hk es.isEmpty w
  rcases findKey_run (prog := prog) (t := kt) hk w ho with ⟨h3, _, h4⟩ | ⟨j, e', h3, h5, h6, _⟩
  · refine ⟨(), _, trivial, ?_, sat_set (es' := es) (c' := clk) hw' (ho.del_none h4)⟩
    simp only [execOp, resolve, List.map_toArray, List.map_cons, List.map_nil, ha.ev hx, ha.ev hy, Sem.run_bind, Sem.run_pure, Result.andThen_ok, invoke, builtin, Builtin.delete_, List.getElem?_toArray, List.getElem?_cons_zero, List.getElem?_cons_succ, run_underlying h1, run_getObj_map w r es clk hb, hck, h3, run_setMap _ hb]
  · have hjl : j < es.size := by have := (List.getElem?_eq_some_iff.1 h5).1; rwa [Array.length_toList] at this
    refine ⟨(), _, trivial, ?_, sat_set (es' := es.eraseIdxIfInBounds j) (c' := clk) hw' (by rw [Array.eraseIdxIfInBounds, dif_pos hjl, Array.toList_eraseIdx]; exact ho.del_at h5 h6)⟩
    simp only [execOp, resolve, List.map_toArray, List.map_cons, List.map_nil, ha.ev hx, ha.ev hy, Sem.run_bind, Sem.run_pure, Result.andThen_ok, invoke, builtin, Builtin.delete_, List.getElem?_toArray, List.getElem?_cons_zero, List.getElem?_cons_succ, run_underlying h1, run_getObj_map w r es clk hb, hck, h3, run_setMap _ hb]
end Go.SLA
