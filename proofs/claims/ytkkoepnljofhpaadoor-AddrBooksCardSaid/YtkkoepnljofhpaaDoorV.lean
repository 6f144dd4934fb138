/- How long the strings are that lie in an argument without pointers. -/
import Derived.Test.YtkkoepnljofhpaaDoorO
import Derived.Test.YtkkoepnljofhpaaDoorH
set_option linter.unusedVariables false
set_option linter.unusedSimpArgs false
namespace Go.SLA
open Go.ChangeShapes Go.WideShapes Go.Deep
def SmallC (cs : List Value) : Prop := ∀ s : ByteArray, Value.string s ∈ cs → s.size ≤ reachBytes
theorem SmallC.append {a b : List Value} (h1 : SmallC a) (h2 : SmallC b) : SmallC (a ++ b) := fun s hs => (List.mem_append.1 hs).elim (h1 s) (h2 s)
theorem SmallC.nil : SmallC [] := fun s hs => by cases hs
theorem weights_all {H : Type} {P : Program} {e : TypeId} : ∀ {ds : List (DataW H)} {d : DataW H}, d ∈ ds → ∀ n ∈ d.weights P e, n ∈ DataW.weightsAll P e ds
  | c :: ds, d, h, n, hn => by
    rw [DataW.weightsAll]
    rcases List.mem_cons.1 h with rfl | h
    · exact List.mem_append_left _ hn
    · exact List.mem_append_right _ (weights_all h n hn)
section
variable {H : Type} {enc : TypeId × Value → H} {P : Program} {w : World} {base : Nat} {spare : Nat → Bool} {held : Bool}
theorem flatFs_small {g : TypeId → Option (List CK)} {cs : List Value} :
    ∀ (fs : List Field) (off : Nat) (ks : List CK), flatFs P g fs off = some ks → (∀ f ∈ fs, (g f.type).isSome → SmallC ((cs.drop f.offset).take (P.cellsOf f.type))) → SmallC ((cs.drop off).take ks.length)
  | [], off, ks, h, _ => by simp only [flatFs, Option.some.injEq] at h; subst h; simpa using SmallC.nil
  | f :: fs, off, ks, h, hx => by
    simp only [flatFs] at h
    split at h
    · rename_i k hk
      split at h
      · rename_i hc
        cases hr : flatFs P g fs (off + k.length) with
        | none => simp [hr] at h
        | some ks' =>
          simp only [hr, Option.map_some, Option.some.injEq] at h
          subst h
          have h1 := hx f (by simp) (by rw [hk]; rfl)
          rw [hc.1, hc.2] at h1
          have h2 := flatFs_small fs (off + k.length) ks' hr (fun f hf => hx f (by simp [hf]))
          have := h1.append h2
          have e : (cs.drop off).take k.length ++ (cs.drop (off + k.length)).take ks'.length = (cs.drop off).take (k ++ ks').length := by
            rw [List.length_append, List.take_add, List.drop_drop]
          rw [e] at this
          exact this
      · cases h
    · cases h
theorem flat_small : ∀ (d : Nat) (t : TypeId) (ks : List CK) (fuel : Nat) (cs : List Value) (x : DataW H × List MemPlace), flatK P d t = some ks → DataW.trod enc P w base spare held fuel t cs = some x → (∀ m ∈ x.1.weights P t, m ≤ reachBytes) → SmallC cs
  | 0, _, _, _, _, _, h, _, _ => by simp [flatK] at h
  | d + 1, t, ks, fuel, cs, x, h, ht, hw => by
    have hok := (flat_ok (d + 1) t ks fuel cs x h ht).1
    simp only [flatK] at h
    split at h
    · rename_i k hu
      obtain ⟨n, rfl, _, _⟩ := DataW.trod_int hu ht
      intro s hs; simp at hs
    · rename_i hu
      obtain ⟨b, rfl, _⟩ := DataW.trod_bool hu ht
      intro s hs; simp at hs
    · rename_i hu
      obtain ⟨s, rfl, rfl, _⟩ := DataW.trod_string hu ht
      intro s' hs
      simp only [List.mem_singleton, Value.string.injEq] at hs
      subst hs
      have := hw s'.data.toList.length (by simp [DataW.weights])
      rwa [Array.length_toList] at this
    · rename_i fs hu
      split at h
      · rename_i ks' hks
        split at h
        · rename_i hlen
          simp only [Option.some.injEq] at h; subst h
          obtain ⟨xs, n, rfl, rfl, hl, hxl, hf⟩ := DataW.trod_struct hu ht
          have := flatFs_small (P := P) (g := flatK P d) (cs := cs) fs.toList 0 ks' hks (fun f hf' hg => by
            obtain ⟨i, hi⟩ := List.getElem?_of_mem hf'
            have hi2 := hi
            rw [Array.getElem?_toList] at hi
            have hlt : i < xs.length := by rw [hxl]; exact (Array.getElem?_eq_some_iff.1 hi).1
            obtain ⟨k, hk⟩ := Option.isSome_iff_exists.1 hg
            have hxi : xs[i]? = some xs[i] := List.getElem?_eq_getElem hlt
            refine flat_small d f.type k n _ xs[i] hk (by rw [hf i f hi, hxi]) fun m hm => hw m ?_
            simp only [DataW.weights, hu]
            exact DataW.weights_mem_each (j := i) (t := f.type) (d := xs[i].1) (by rw [List.getElem?_map, hi2]; rfl) (by rw [List.getElem?_map, hxi]; rfl) m hm)
          simp only [List.drop_zero] at this
          rwa [List.take_of_length_le (by omega)] at this
        · cases h
      · cases h
    · rename_i n e hu
      split at h
      · rename_i k hk
        split at h
        · rename_i hc
          simp only [Option.some.injEq] at h; subst h
          obtain ⟨xs, m, rfl, rfl, hl, hxl, hf⟩ := DataW.trod_array hu ht
          have key : ∀ i, i ≤ n → SmallC (cs.take (i * k.length)) := by
            intro i
            induction i with
            | zero => intro _; simpa using SmallC.nil
            | succ i ih =>
              intro hi
              have h1 := ih (by omega)
              have h2 := hf i (by omega)
              have hxi : xs[i]? = some xs[i] := List.getElem?_eq_getElem (show i < xs.length by omega)
              rw [hc.1, hxi] at h2
              have h3 := h1.append (flat_small d e k m _ _ hk h2 fun q hq => hw q (by
                simp only [DataW.weights, hu]
                exact weights_all (List.mem_map.2 ⟨_, List.mem_of_getElem? hxi, rfl⟩) q hq))
              rw [Nat.add_mul, Nat.one_mul, List.take_add]
              exact h3
          have := key n (Nat.le_refl _)
          rwa [List.take_of_length_le (by omega)] at this
        · cases h
      · cases h
    · cases h
/-- The strings of such an argument are no longer than what may be reached. -/
theorem small_flat {t : TypeId} {l : List Value} {d : DataW H} {p : List MemPlace} {D : Nat} {ks : List CK} {ts : List TypeId} {ds : List (DataW H)} {j : Nat} (hk : flatK P D t = some ks) (h : DataW.Trod enc P w base spare held t (.agg l.toArray) d p) (hz : (DataW.weightsEach P ts ds).all (· ≤ reachBytes) = true) (ht : ts[j]? = some t) (hd : ds[j]? = some d) : SmallC l := by
  obtain ⟨fuel, hf⟩ := h
  have e : (Value.agg l.toArray).cells.toList = l := by simp [Value.cells]
  rw [e] at hf
  refine flat_small D t ks fuel _ _ hk hf fun m hm => ?_
  have := List.all_eq_true.1 hz _ (DataW.weights_mem_each ht hd m hm)
  simpa using this
end
end Go.SLA
