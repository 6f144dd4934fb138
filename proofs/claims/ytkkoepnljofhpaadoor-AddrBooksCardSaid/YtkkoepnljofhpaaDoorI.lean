/- Equality of structs and arrays that hold numbers, truth values and strings only. -/
import Derived.Test.YtkkoepnljofhpaaDoorH
import Derived.DeepKeys
set_option linter.unusedVariables false
set_option linter.unusedSimpArgs false
namespace Go.SLA

def CK.sh : CK → Value → Prop
  | .int k, v => ∃ n, v = .int k n
  | .bool, v => ∃ b, v = .bool b
  | .str, v => ∃ s : ByteArray, v = .string s
/-- Cells of these kinds. -/
def Shape : List CK → List Value → Prop
  | [], [] => True
  | k :: ks, c :: cs => k.sh c ∧ Shape ks cs
  | _, _ => False
theorem Shape.len : ∀ {ks : List CK} {cs : List Value}, Shape ks cs → cs.length = ks.length
  | [], [], _ => rfl
  | _ :: _, _ :: _, h => by simp [Shape.len h.2]
  | [], _ :: _, h => h.elim
  | _ :: _, [], h => h.elim
theorem Shape.append : ∀ {k1 k2 : List CK} {c1 c2 : List Value}, Shape k1 c1 → Shape k2 c2 → Shape (k1 ++ k2) (c1 ++ c2)
  | [], _, [], _, _, h2 => h2
  | _ :: _, _, _ :: _, _, h, h2 => ⟨h.1, Shape.append h.2 h2⟩
  | [], _, _ :: _, _, h, _ => h.elim
  | _ :: _, _, [], _, h, _ => h.elim
theorem Shape.take : ∀ {k1 k2 : List CK} {cs : List Value}, Shape (k1 ++ k2) cs → Shape k1 (cs.take k1.length) ∧ Shape k2 (cs.drop k1.length)
  | [], _, cs, h => by simpa using ⟨trivial, h⟩
  | k :: k1, k2, [], h => h.elim
  | k :: k1, k2, c :: cs, h => by
    have := Shape.take (k1 := k1) (k2 := k2) h.2
    exact ⟨⟨h.1, this.1⟩, this.2⟩
theorem Shape.nil_eq {cs : List Value} (h : Shape [] cs) : cs = [] := List.eq_nil_of_length_eq_zero h.len

section
variable {P : Program} (w : World)
theorem part_flat {e D off : Nat} {ks : List CK} {xs : Array Value} (hk : flatK P D e = some ks) (hs : Shape ks ((xs.toList.drop off).take ks.length)) :
    ∃ a, (part e xs off).run P w = .ok a w ∧ a.formed P e = true ∧ a.cells.toList = (xs.toList.drop off).take ks.length := by
  cases D with
  | zero => simp [flatK] at hk
  | succ D =>
    have one : ∀ k, ks = [k] → P.plainKey e = true → (∀ v, k.sh v → v.formed P e = true ∧ v.cells = #[v]) → ∃ a, (part e xs off).run P w = .ok a w ∧ a.formed P e = true ∧ a.cells.toList = (xs.toList.drop off).take ks.length := by
      rintro k rfl hp hf
      have hl := hs.len
      match hc : (xs.toList.drop off).take [k].length, hl, hs with
      | [v], _, hs =>
        have h1 := hf v hs.1
        exact ⟨v, run_part_plain w hp (getElem?_of_chunk hc), h1.1, by rw [h1.2]⟩
    have agg : P.cellsOf e = ks.length → ((∃ n e', P.underlying e = some (.array n e')) ∨ ∃ fs, P.underlying e = some (.struct fs)) → ∃ a, (part e xs off).run P w = .ok a w ∧ a.formed P e = true ∧ a.cells.toList = (xs.toList.drop off).take ks.length := by
      intro hc hu
      have hx : ∃ i, P.info? e = some i := by
        rcases hu with ⟨n, e', hu⟩ | ⟨fs, hu⟩ <;> exact info_of_underlying hu
      obtain ⟨i, hi⟩ := hx
      have hl : (xs.extract off (off + P.cellsOf e)).toList = (xs.toList.drop off).take (P.cellsOf e) := by
        rw [Array.toList_extract]
        simp [List.extract]
      have hlen := hs.len
      rw [← hc] at hlen ⊢
      refine ⟨.agg (xs.extract off (off + P.cellsOf e)), ?_, ?_, hl⟩
      · rcases hu with ⟨n, e', hu⟩ | ⟨fs, hu⟩ <;> simp [part, isAgg, run_underlying hu, run_sizeOf w hi]
      · have hsz : (xs.extract off (off + P.cellsOf e)).size = P.cellsOf e := by rw [← Array.length_toList, hl, hlen]
        rcases hu with ⟨n, e', hu⟩ | ⟨fs, hu⟩ <;> simp [Value.formed, hu, hsz]
    simp only [flatK] at hk
    split at hk
    · rename_i k hu
      simp only [Option.some.injEq] at hk
      exact one _ hk.symm (by simp [Program.plainKey, hu]) (fun v ⟨n, hv⟩ => by subst hv; simp [Value.formed, hu, Value.cells])
    · rename_i hu
      simp only [Option.some.injEq] at hk
      exact one _ hk.symm (by simp [Program.plainKey, hu]) (fun v ⟨n, hv⟩ => by subst hv; simp [Value.formed, hu, Value.cells])
    · rename_i hu
      simp only [Option.some.injEq] at hk
      exact one _ hk.symm (by simp [Program.plainKey, hu]) (fun v ⟨n, hv⟩ => by subst hv; simp [Value.formed, hu, Value.cells])
    · rename_i fs hu
      split at hk
      · split at hk
        · rename_i hc
          simp only [Option.some.injEq] at hk
          subst hk
          exact agg hc (.inr ⟨_, hu⟩)
        · cases hk
      · cases hk
    · rename_i n e' hu
      split at hk
      · split at hk
        · rename_i k hk2 hc
          simp only [Option.some.injEq] at hk
          subst hk
          exact agg (by rw [hc.2]; simp) (.inl ⟨_, _, hu⟩)
        · cases hk
      · cases hk
    · cases hk
end

def EqF (P : Program) (dd : Nat) (e : TypeId) (ks : List CK) : Prop :=
  ∀ (w : World) (a b : Value), a.formed P e = true → b.formed P e = true → Shape ks a.cells.toList → Shape ks b.cells.toList → ∃ r : Bool, (Op.equalIn dd e a b).run P w = .ok r w ∧ (r = true ↔ a.cells.toList = b.cells.toList)

section
variable {P : Program} (w : World)
theorem cut_add {α : Type} (l : List α) (o m n : Nat) : (l.drop o).take (m + n) = (l.drop o).take m ++ (l.drop (o + m)).take n := by rw [List.take_add, List.drop_drop]
theorem app_iff {α : Type} {a b c d : List α} (h : a.length = b.length) : a ++ c = b ++ d ↔ a = b ∧ c = d := ⟨fun e => List.append_inj e h, fun ⟨e1, e2⟩ => by rw [e1, e2]⟩
theorem eqF_fields (D dd : Nat) (xs ys : Array Value) : ∀ (fs : List Field) (off : Nat) (ks : List CK), flatFs P (flatK P D) fs off = some ks → (∀ f ∈ fs, f.name ≠ "_" ∧ ∀ k, flatK P D f.type = some k → EqF P dd f.type k) →
    Shape ks ((xs.toList.drop off).take ks.length) → Shape ks ((ys.toList.drop off).take ks.length) →
    ∃ r : Bool, (Op.eqFields dd xs ys fs).run P w = .ok r w ∧ (r = true ↔ (xs.toList.drop off).take ks.length = (ys.toList.drop off).take ks.length)
  | [], off, ks, h, _, _, _ => by
    simp only [flatFs, Option.some.injEq] at h
    subst h
    exact ⟨true, by simp [Op.eqFields], by simp⟩
  | f :: fs, off, ks, h, hall, hx, hy => by
    simp only [flatFs] at h
    split at h
    · rename_i k hk
      split at h
      · rename_i hc
        cases hr : flatFs P (flatK P D) fs (off + k.length) with
        | none => simp [hr] at h
        | some ks' =>
          simp only [hr, Option.map_some, Option.some.injEq] at h
          subst h
          obtain ⟨hn, hp⟩ := hall f (by simp)
          rw [List.length_append, cut_add] at hx hy ⊢
          rw [cut_add]
          have h1 := hx.take
          have h2 := hy.take
          have lx := hx.len
          have ly := hy.len
          simp only [List.length_append, List.length_take, List.length_drop] at lx ly
          have ex : ((xs.toList.drop off).take k.length).length = k.length := by rw [List.length_take, List.length_drop]; omega
          have ey : ((ys.toList.drop off).take k.length).length = k.length := by rw [List.length_take, List.length_drop]; omega
          rw [List.take_left' ex, List.drop_left' ex] at h1
          rw [List.take_left' ey, List.drop_left' ey] at h2
          obtain ⟨a, pa, fa, ca⟩ := part_flat w hk h1.1
          obtain ⟨b, pb, fb, cb⟩ := part_flat w hk h2.1
          obtain ⟨r, hr1, hr2⟩ := hp k hk w a b fa fb (by rw [ca]; exact h1.1) (by rw [cb]; exact h2.1)
          obtain ⟨r', hr', hr2'⟩ := eqF_fields D dd xs ys fs (off + k.length) ks' hr (fun g hg => hall g (by simp [hg])) h1.2 h2.2
          rw [ca, cb] at hr2
          simp only [Op.eqFields, hn, ne_eq, not_false_eq_true, if_true, Sem.run_bind, Result.andThen_ok, hc.1, pa, pb, hr1, app_iff (ex.trans ey.symm)]
          cases r
          · exact ⟨false, by simp, by simp; intro e; exact absurd (hr2.2 e) (by simp)⟩
          · refine ⟨r', by simpa using hr', ?_⟩
            rw [hr2']
            simp [hr2.1 rfl]
      · cases h
    · cases h
theorem eqF_items (D dd : Nat) {e : TypeId} {k : List CK} (hk : flatK P D e = some k) (hc : P.cellsOf e = k.length) (IH : EqF P dd e k) (xs ys : Array Value) : ∀ (n i : Nat),
    Shape (List.replicate n k).flatten ((xs.toList.drop (i * k.length)).take (n * k.length)) → Shape (List.replicate n k).flatten ((ys.toList.drop (i * k.length)).take (n * k.length)) →
    ∃ r : Bool, (Op.eqItems dd e (P.cellsOf e) xs ys (List.range' i n)).run P w = .ok r w ∧ (r = true ↔ (xs.toList.drop (i * k.length)).take (n * k.length) = (ys.toList.drop (i * k.length)).take (n * k.length))
  | 0, i, _, _ => ⟨true, by simp [Op.eqItems], by simp⟩
  | n + 1, i, hx, hy => by
    have hm : (n + 1) * k.length = k.length + n * k.length := by rw [Nat.add_mul, Nat.one_mul, Nat.add_comm]
    have hi : i * k.length + k.length = (i + 1) * k.length := by rw [Nat.add_mul, Nat.one_mul]
    rw [hm, cut_add, hi] at hx hy
    rw [hm, cut_add, cut_add, hi]
    rw [List.replicate_succ, List.flatten_cons] at hx hy
    have h1 := hx.take
    have h2 := hy.take
    have lx := hx.len
    have ly := hy.len
    simp only [List.length_append, List.length_take, List.length_drop, List.length_flatten, List.map_replicate, List.sum_replicate_nat] at lx ly
    have ex : ((xs.toList.drop (i * k.length)).take k.length).length = k.length := by rw [List.length_take, List.length_drop]; omega
    have ey : ((ys.toList.drop (i * k.length)).take k.length).length = k.length := by rw [List.length_take, List.length_drop]; omega
    rw [List.take_left' ex, List.drop_left' ex] at h1
    rw [List.take_left' ey, List.drop_left' ey] at h2
    obtain ⟨a, pa, fa, ca⟩ := part_flat w hk h1.1
    obtain ⟨b, pb, fb, cb⟩ := part_flat w hk h2.1
    obtain ⟨r, hr1, hr2⟩ := IH w a b fa fb (by rw [ca]; exact h1.1) (by rw [cb]; exact h2.1)
    obtain ⟨r', hr', hr2'⟩ := eqF_items D dd hk hc IH xs ys n (i + 1) h1.2 h2.2
    rw [ca, cb] at hr2
    rw [List.range'_succ]
    simp only [Op.eqItems, Sem.run_bind, Result.andThen_ok, hc, pa, pb, hr1, app_iff (ex.trans ey.symm)]
    rw [hc] at hr'
    cases r
    · exact ⟨false, by simp, by simp; intro e; exact absurd (hr2.2 e) (by simp)⟩
    · refine ⟨r', by simpa using hr', ?_⟩
      rw [hr2']
      simp [hr2.1 rfl]
end

theorem eqF {P : Program} (d : Nat) : ∀ (D : Nat) (t : TypeId) (ks : List CK), flatK P D t = some ks → P.keyTypeAt D t = true → EqF P (d + D) t ks
  | 0, _, _, h, _ => by simp [flatK] at h
  | D + 1, t, ks, h, hk => by
    intro w a b fa fb sa sb
    have cell : ∀ k, ks = [k] → (∀ v, a.cells.toList = [v] → a = v) → (∀ v, b.cells.toList = [v] → b = v) →
        (∀ u v, k.sh u → k.sh v → ∃ r : Bool, (Op.equalIn (d + D + 1) t u v).run P w = .ok r w ∧ (r = true ↔ u = v)) → ∃ r : Bool, (Op.equalIn (d + (D + 1)) t a b).run P w = .ok r w ∧ (r = true ↔ a.cells.toList = b.cells.toList) := by
      rintro k rfl ha hb hu
      match ea : a.cells.toList, sa.len, sa with
      | [u], _, sa =>
        match eb : b.cells.toList, sb.len, sb with
        | [v], _, sb =>
          obtain ⟨r, h1, h2⟩ := hu u v sa.1 sb.1
          refine ⟨r, ?_, by simpa using h2⟩
          rw [ha u ea, hb v eb]
          exact h1
    have nagg : ∀ (x : Value), x.formed P t = true → (∀ xs, x ≠ .agg xs) → ∀ v, x.cells.toList = [v] → x = v := by
      intro x hx hn v hv
      cases x <;> simp_all [Value.cells, Value.formed]
    simp only [flatK] at h
    unfold Program.keyTypeAt at hk
    split at h
    · rename_i k hu
      simp only [Option.some.injEq] at h
      refine cell _ h.symm (nagg a fa ?_) (nagg b fb ?_) ?_
      · rintro xs rfl; simp [Value.formed, hu] at fa
      · rintro xs rfl; simp [Value.formed, hu] at fb
      · rintro u v ⟨x, rfl⟩ ⟨y, rfl⟩
        exact ⟨x == y, run_equalIn_int w _ t k k x y hu, by simp⟩
    · rename_i hu
      simp only [Option.some.injEq] at h
      refine cell _ h.symm (nagg a fa ?_) (nagg b fb ?_) ?_
      · rintro xs rfl; simp [Value.formed, hu] at fa
      · rintro xs rfl; simp [Value.formed, hu] at fb
      · rintro u v ⟨x, rfl⟩ ⟨y, rfl⟩
        exact ⟨x == y, run_equalIn_bool w _ t x y hu, by simp⟩
    · rename_i hu
      simp only [Option.some.injEq] at h
      refine cell _ h.symm (nagg a fa ?_) (nagg b fb ?_) ?_
      · rintro xs rfl; simp [Value.formed, hu] at fa
      · rintro xs rfl; simp [Value.formed, hu] at fb
      · rintro u v ⟨x, rfl⟩ ⟨y, rfl⟩
        exact ⟨x.toList == y.toList, run_equalIn_string w _ t x y hu, by rw [bytes_beq]; simp⟩
    · rename_i fs hu
      simp only [hu, Bool.and_eq_true, Bool.not_eq_true'] at hk
      split at h
      · rename_i ks' hks
        split at h
        · rename_i hlen
          simp only [Option.some.injEq] at h
          subst h
          cases a <;> simp only [Value.formed, hu, Bool.false_eq_true] at fa
          cases b <;> simp only [Value.formed, hu, Bool.false_eq_true] at fb
          rename_i xs ys
          simp only [Value.cells] at sa sb ⊢
          have lx := sa.len
          have ly := sb.len
          have hfs : P.fieldsOf t = fs := by simp [Program.fieldsOf, hu]
          obtain ⟨r, h1, h2⟩ := eqF_fields w D (d + D) xs ys fs.toList 0 ks' hks (fun f hf => by
            have := hk.1.1
            rw [Array.all_eq_true_iff_forall_mem] at this
            have := this f (by simpa using hf)
            simp only [Bool.and_eq_true, bne_iff_ne, ne_eq] at this
            exact ⟨this.1, fun k hk' => eqF d D f.type k hk' this.2⟩) (by simpa [List.take_of_length_le, lx] using sa) (by simpa [List.take_of_length_le, ly] using sb)
          refine ⟨r, ?_, ?_⟩
          · rw [show d + (D + 1) = (d + D) + 1 from rfl, run_equalIn_struct w (d + D) t xs ys (by rw [hfs]; exact hu) hk.2, hfs]
            exact h1
          · rw [h2, List.drop_zero, List.drop_zero, List.take_of_length_le (by omega), List.take_of_length_le (by omega)]
        · cases h
      · cases h
    · rename_i n e hu
      simp only [hu] at hk
      split at h
      · rename_i k hk2
        split at h
        · rename_i hc
          simp only [Option.some.injEq] at h
          subst h
          cases a <;> simp only [Value.formed, hu, Bool.false_eq_true] at fa
          cases b <;> simp only [Value.formed, hu, Bool.false_eq_true] at fb
          rename_i xs ys
          simp only [Value.cells] at sa sb ⊢
          have lx := sa.len
          have ly := sb.len
          simp only [List.length_flatten, List.map_replicate, List.sum_replicate_nat] at lx ly
          have hie : ∃ i, P.info? e = some i := by
            cases D with
            | zero => simp [flatK] at hk2
            | succ D' =>
              simp only [flatK] at hk2
              cases hue : P.underlying e with
              | none => simp [hue] at hk2
              | some _ => exact info_of_underlying hue
          obtain ⟨i, hi⟩ := hie
          obtain ⟨r, h1, h2⟩ := eqF_items w D (d + D) hk2 hc.1 (eqF d D e k hk2 hk) xs ys n 0 (by rw [Nat.zero_mul, List.drop_zero, List.take_of_length_le (by omega)]; exact sa) (by rw [Nat.zero_mul, List.drop_zero, List.take_of_length_le (by omega)]; exact sb)
          refine ⟨r, ?_, ?_⟩
          · rw [show d + (D + 1) = (d + D) + 1 from rfl, run_equalIn_array w (d + D) xs ys hu hi, List.range_eq_range']
            exact h1
          · rw [h2, Nat.zero_mul, List.drop_zero, List.drop_zero, List.take_of_length_le (by omega), List.take_of_length_le (by omega)]
        · cases h
      · cases h
    · cases h

variable {prog : Program} {σ : World} {n : Nat} {E : Env} {Pr : HProp}
/-- A type whose values are compared cell by cell. -/
class EqT (prog : Program) (t : TypeId) (ks : outParam (List CK)) : Prop where
  b : flatK prog 20 t = some ks ∧ prog.keyTypeAt 20 t = true ∧ prog.eqGuardType prog.depth t = false ∧ undB prog t isAggD = true
theorem EqT.run {t : TypeId} {ks : List CK} [h : EqT prog t ks] {l r : List Value} (hl : Shape ks l) (hr : Shape ks r) (w : World) : ∃ c : Bool, (Op.equalIn 10000 t (.agg l.toArray) (.agg r.toArray)).run prog w = .ok c w ∧ (c = true ↔ l = r) := by
  obtain ⟨h1, h2, _, h4⟩ := h.b
  have hf : ∀ l : List Value, Shape ks l → (Value.agg l.toArray).formed prog t = true := by
    intro l hl
    obtain ⟨d, hd, h5⟩ := undB_spec h4
    have hll := hl.len
    simp only [flatK, hd] at h1
    unfold isAggD at h5
    split at h5
    · rename_i fs
      simp only at h1
      split at h1
      · split at h1
        · rename_i hc
          simp only [Option.some.injEq] at h1
          subst h1
          simp [Value.formed, hd, hc, hll]
        · cases h1
      · cases h1
    · rename_i m e
      simp only at h1
      split at h1
      · split at h1
        · rename_i hc
          simp only [Option.some.injEq] at h1
          subst h1
          simp only [List.length_flatten, List.map_replicate, List.sum_replicate_nat] at hll
          simp [Value.formed, hd, hc.2, hll]
        · cases h1
      · cases h1
    · cases h5
  have := eqF (P := prog) 9980 20 t ks h1 h2 w (.agg l.toArray) (.agg r.toArray) (hf l hl) (hf r hr) hl hr
  simpa [Value.cells] using this
open Classical in
theorem opv_eqlF {d : Option Tmp} {ty : TypeId} {pos : String} {aft : Array Edge} {g : Option (Nat × Bool)} {x y : Operand} {t t' : TypeId} {ks : List CK} {l r : List Value} [h : EqT prog t ks] (hx : ev E x = some (.agg l.toArray)) (hy : ev E y = some (.agg r.toArray)) (hl : Shape ks l) (hr : Shape ks r) :
    OpV prog σ n E Pr ⟨d, .binOp .eql t x y t', ty, pos, aft, g⟩ (.bool (decide (l = r))) := fun _ w ha _ => by
  obtain ⟨c, h1, h2⟩ := EqT.run (prog := prog) (t := t) hl hr w
  have : c = decide (l = r) := by cases c <;> simp_all
  subst this
  simp only [execOp, ha.ev hx, ha.ev hy, Sem.run_bind, run_eqGuard_agg w .eql t x y _ _ h.b.2.2.1, Result.andThen_ok, run_eql_struct, h1, Sem.run_pure]
open Classical in
theorem opv_neqF {d : Option Tmp} {ty : TypeId} {pos : String} {aft : Array Edge} {g : Option (Nat × Bool)} {x y : Operand} {t t' : TypeId} {ks : List CK} {l r : List Value} [h : EqT prog t ks] (hx : ev E x = some (.agg l.toArray)) (hy : ev E y = some (.agg r.toArray)) (hl : Shape ks l) (hr : Shape ks r) :
    OpV prog σ n E Pr ⟨d, .binOp .neq t x y t', ty, pos, aft, g⟩ (.bool (decide (l ≠ r))) := fun _ w ha _ => by
  obtain ⟨c, h1, h2⟩ := EqT.run (prog := prog) (t := t) hl hr w
  have : (!c) = decide (l ≠ r) := by cases c <;> simp_all
  simp only [execOp, ha.ev hx, ha.ev hy, Sem.run_bind, run_eqGuard_agg w .neq t x y _ _ h.b.2.2.1, Result.andThen_ok, run_neq_struct, h1, Sem.run_pure, this]
/-- What stands beside stays. -/
theorem FSpec.frame {prog : Program} {f : FuncId} {args : Array Value} {P : HProp} {X : Type} {φ : X → Prop} {val : X → Value} {Qo : X → HProp} (h : FSpec prog f args P φ val Qo) (R : HProp) : FSpec prog f args (sep (P) (R)) φ val (fun x => (sep (Qo x) (R))) := fun σ w F hs => by
  rw [sep_assoc] at hs
  exact (h σ w (sep (R) (F)) hs).mono fun e w' ⟨x, hx, he, hs'⟩ => ⟨x, hx, he, by rw [sep_assoc]; exact hs'⟩
theorem OpV.bool_t {o : Oper} {p : Prop} {inst : Decidable p} (h : OpV prog σ n E Pr o (.bool (@decide p inst))) (hp : p) : OpV prog σ n E Pr o (.bool true) := by rwa [decide_eq_true hp] at h
theorem OpV.bool_f {o : Oper} {p : Prop} {inst : Decidable p} (h : OpV prog σ n E Pr o (.bool (@decide p inst))) (hp : ¬ p) : OpV prog σ n E Pr o (.bool false) := by rwa [decide_eq_false hp] at h
end Go.SLA
