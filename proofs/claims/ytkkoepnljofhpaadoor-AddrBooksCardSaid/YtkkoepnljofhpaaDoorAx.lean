/- slices.SortFunc over addresses as a contract on what a call owns; it is used by the texts that import this one. -/
import Derived.Test.YtkkoepnljofhpaaDoorAw
import Derived.Test.YtkkoepnljofhpaaDoorH
namespace Go.Proofs.YtkkoepnljofhpaaDoor
open Go.SLA
set_option maxRecDepth 100000
set_option linter.unusedVariables false
set_option linter.unusedSimpArgs false
attribute [local irreducible] J L K QL Rg FSpec OpV OpX Rd Back

open Go.RowKit Go.Lib Go.Sort
theorem flatK_list (d : Array M6) : (flatK encM 6 d).toList = d.toList.flatMap encM := by
  apply List.ext_getElem?
  intro t
  by_cases h : t < d.size * 6
  · have h6 : t / 6 < d.size := by omega
    have hx : d.toList[t / 6]? = some d[t / 6] := by rw [Array.getElem?_toList, Array.getElem?_eq_getElem h6]
    have hm : t % 6 < 6 := Nat.mod_lt _ (by decide)
    have e := flat_get (enc := encM) (m := 6) encM_len d.toList (t / 6) (t % 6) _ hx hm
    rw [show t / 6 * 6 + t % 6 = t by omega] at e
    rw [e, Array.getElem?_toList, Array.getElem?_eq_getElem (by rw [size_flatK]; exact h)]
    have g := get_flatK encM 6 d t h
    rw [getElem!_pos _ t (by rw [size_flatK]; exact h), getElem!_pos d (t / 6) h6] at g
    have hl : t % 6 < (encM d[t / 6]).length := by rw [encM_len]; exact hm
    rw [g, getElem!_pos (encM d[t / 6]) (t % 6) hl, List.getElem?_eq_getElem hl]
  · rw [List.getElem?_eq_none (by rw [Array.length_toList, size_flatK]; omega), List.getElem?_eq_none (by rw [flat_len encM_len, Array.length_toList]; omega)]
theorem putCells_mid (pre post l l' : List Value) (hl : l'.length = l.length) : putCells id pre.length l'.toArray (pre ++ l ++ post).toArray = (pre ++ l' ++ post).toArray := by
  apply Array.ext_getElem?
  intro i
  unfold putCells
  rw [Array.getElem?_mapIdx]
  simp only [List.getElem?_toArray, List.size_toArray, id]
  rcases Nat.lt_or_ge i pre.length with h | h
  · rw [List.append_assoc, List.getElem?_append_left h, List.append_assoc, List.getElem?_append_left h, List.getElem?_eq_getElem h, Option.map_some, if_neg (by omega)]
  · rw [List.append_assoc, List.getElem?_append_right h, List.append_assoc, List.getElem?_append_right h]
    rcases Nat.lt_or_ge (i - pre.length) l.length with h2 | h2
    · rw [List.getElem?_append_left h2, List.getElem?_append_left (by omega), List.getElem?_eq_getElem h2, Option.map_some, if_pos ⟨h, by omega⟩, List.getElem?_eq_getElem (by omega)]
      congr 1
      rw [getElem!_pos l'.toArray (i - pre.length) (by rw [List.size_toArray]; omega), List.getElem_toArray]
    · rw [List.getElem?_append_right h2, List.getElem?_append_right (by omega), hl]
      cases hp : post[i - pre.length - l.length]? with
      | none => rfl
      | some v => rw [Option.map_some, if_neg (by omega)]
theorem sat_sorted {σ w : World} {R : HProp} {b m : Nat} {pre post : List Value} {t : TypeId} {d d' : Array M6} {os : Array Obj} (hs : d'.size = d.size) (h : Sat σ w (sep (cel b (pre ++ d.toList.flatMap encM ++ post) t) (R))) : Sat σ (sortWorldK encM 6 w b pre.length m d' os) (sep (cel b (pre ++ d'.toList.flatMap encM ++ post) t) (R)) := by
  have hb := h.blk
  have hlt : b < w.heap.size := by
    rcases Nat.lt_or_ge b w.heap.size with hl | hl
    · exact hl
    · rw [Array.getElem?_eq_none hl] at hb; cases hb
  have hl : (d'.toList.flatMap encM).length = (d.toList.flatMap encM).length := by rw [flat_len encM_len, flat_len encM_len, Array.length_toList, Array.length_toList, hs]
  have h1 : Sat σ (putRowK encM 6 (Go.Sort.ahead w m) b pre.length d') (sep (cel b (pre ++ d'.toList.flatMap encM ++ post) t) (R)) := by
    refine h.update (w' := putRowK encM 6 (Go.Sort.ahead w m) b pre.length d') rfl rfl rfl ?_ (fun k hk => ?_)
    · show (w.heap.modify b _)[b]? = _
      rw [Array.getElem?_modify, if_pos rfl, hb]
      have e : flatK encM 6 d' = (d'.toList.flatMap encM).toArray := by rw [← flatK_list, Array.toArray_toList]
      rw [e]
      show some (Obj.cells (putCells id pre.length _ (pre ++ d.toList.flatMap encM ++ post).toArray) t (0, 0)) = _
      rw [putCells_mid _ _ _ _ hl]
    · show (w.heap.modify b _)[k]? = _
      rw [Array.getElem?_modify, if_neg (fun e => hk e.symm)]
  exact h1.same rfl rfl rfl (fun k hk => by
    show ((putRowK encM 6 (Go.Sort.ahead w m) b pre.length d').heap ++ os)[k]? = _
    rw [Array.getElem?_append_left hk])

theorem holdsM {σ w : World} {R : HProp} {b : Nat} {pre post : List Value} {t : TypeId} {d : Array M6} (h : Sat σ w (sep (cel b (pre ++ d.toList.flatMap encM ++ post) t) (R))) : HoldsK encM 6 w b pre.length d := by
  intro j hj
  have hb := h.blk
  have e : flatK encM 6 d = (d.toList.flatMap encM).toArray := by rw [← flatK_list, Array.toArray_toList]
  have hjl : j < (d.toList.flatMap encM).length := by rw [flat_len encM_len, Array.length_toList, ← size_flatK encM 6 d]; exact hj
  refine ⟨?_, ?_⟩
  · have := cell_of_cel (o := pre.length + j) h
    rw [mid_get _ _ _ _ hjl] at this
    rw [show (⟨b, pre.length + j, none⟩ : Addr) = ad b (pre.length + j) from rfl, this, e, getElem!_pos (d.toList.flatMap encM).toArray j (by rw [List.size_toArray]; exact hjl), List.getElem_toArray, List.getElem?_eq_getElem hjl]
    rfl
  · unfold World.frozen?
    simp [hb]
instance : Agg Tryd.prog 23 6 := inferInstance
theorem isAggM (w : World) : (isAgg 23).run Tryd.prog w = .ok true w := by
  obtain ⟨d, i, h1, h2, h3, h4⟩ := Agg.spec (prog := Tryd.prog) 23 6
  rw [run_isAgg' h1, h2]
theorem sizeM (w : World) : (Go.sizeOf 23).run Tryd.prog w = .ok 6 w := by
  obtain ⟨d, i, h1, h2, h3, h4⟩ := Agg.spec (prog := Tryd.prog) 23 6
  rw [run_sizeOf' h3, h4]
theorem Sort_own (v : Value) (d : List M6) (hd : d.length ≤ 1000) : FSpec Tryd.prog 43 #[v, .func (.func 44) #[] #[]] (Own 23 6 v d.length (d.flatMap encM)) (fun d' : List M6 => d'.Perm d ∧ d'.Pairwise (fun a b => numM a.1 ≤ numM b.1)) (fun _ => .tuple #[]) (fun d' => Own 23 6 v d.length (d'.flatMap encM)) := by
  unfold FSpec
  intro σ w F hs
  rcases sat_own hs with ⟨rfl, h2, h3, h4⟩ | ⟨b, cap, pre, post, rfl, h2, h3, h4, h5, h6⟩
  · refine (AnyF.slices_SortFunc_none Tryd.sortMac none 0 _ w).mono fun e w' ⟨he, hw⟩ => ?_
    subst hw
    have : d = [] := List.eq_nil_of_length_eq_zero h2
    subst this
    exact ⟨[], ⟨List.Perm.refl _, List.Pairwise.nil⟩, he, hs⟩
  · have hlt : b < w.heap.size := by
      have hb := h6.blk
      rcases Nat.lt_or_ge b w.heap.size with hl | hl
      · exact hl
      · rw [Array.getElem?_eq_none hl] at hb; cases hb
    have h6' : Sat σ w (sep (cel b (pre ++ d.toArray.toList.flatMap encM ++ post) 23) (F)) := h6
    have eg : ∀ args w, (callFunc 44 args).run Tryd.prog w = .ok (.enter 44 args) w := fun args w => run_callFunc 44 args w
    have c := AnyQ.slices_SortFunc Tryd.sortMac 6 isAggM sizeM encM encM_len (fun x => enc8_one x.1) cfM swoM 44 #[] b pre.length cap d.toArray w eg (cmpLaysM _ _ _ _) (holdsM h6') hlt (by rw [List.size_toArray]; omega)
    refine c.mono fun e w' ⟨he, d', n, os, hp, hso, hw⟩ => ?_
    subst hw
    have hsz : d'.size = d.toArray.size := hp.1
    have hl : d'.toList.length = d.length := by rw [Array.length_toList, hsz, List.size_toArray]
    refine ⟨d'.toList, ⟨?_, ?_⟩, he, ?_⟩
    · have := hp.2.2
      rw [show d'.extract 0 d.toArray.size = d' by rw [← hsz]; exact Array.extract_size, show d.toArray.extract 0 d.toArray.size = d.toArray from Array.extract_size] at this
      exact this
    · rw [List.pairwise_iff_getElem]
      intro i j hi hj hij
      have := hso i j (Nat.zero_le _) hij (by rw [List.size_toArray]; omega)
      rw [ltM, getElem!_pos d' j (by omega), getElem!_pos d' i (by omega)] at this
      simp only [Array.getElem_toList]
      have := of_decide_eq_false this
      omega
    · have := sat_sorted (m := n) (os := os) hsz h6'
      refine this.ent (Ent.frame (Own.mk rfl h2 h3 ?_ h5) F)
      rw [flat_len encM_len, hl]

end Go.Proofs.YtkkoepnljofhpaaDoor
