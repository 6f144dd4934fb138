/- Rules of a separation logic over the model, and what functions of the translation do; used by the texts that import this one. -/
import Derived.DeepKeys
import Derived.Laws.IdiomStrings
import Derived.Deep.AppendSrc
import Derived.IntWalk
import Derived.DeepKeys3
import Derived.MapKept
import Derived.Laws.CopyRow
import Derived.Lib.Builder
import Derived.Lib.UnsafeStr
import Derived.Laws.Externs
import Derived.Lib.MakeNoZero
import Derived.Laws.IdiomRangeMap
import Derived.WideLaws
import Derived.Test.YtpkcniedaabpoaaGreatM1
set_option linter.unusedVariables false
set_option linter.unusedSimpArgs false
namespace Go.SLA
section
variable {α : Type} {t ty t' : TypeId} {ks : List CK} {l r : List Value} {d : Option Tmp} {pos : String} {aft : Array Edge} {g : Option (Nat × Bool)} {x y : Operand} {o : Oper} {p : Prop} {inst : Decidable p}
def CK.sh : CK -> Value -> Prop
 | .int k, v => ∃ n, v = .int k n
 | .bool, v => ∃ b, v = .bool b
 | .str, v => ∃ s : ByteArray, v = .string s
def Shape : List CK -> List Value -> Prop
 | [], [] => True
 | k :: ks, c :: cs => k.sh c /\ Shape ks cs
 | _, _ => False
theorem Shape.len : ∀ {ks : List CK} {cs : List Value}, Shape ks cs -> cs.length = ks.length
 | [], [], _ => rfl
 | _ :: _, _ :: _, h => by simp [Shape.len h.2]
 | [], _ :: _, h => h.elim
 | _ :: _, [], h => h.elim
theorem Shape.take : ∀ {k1 k2 : List CK} {cs : List Value}, Shape (k1 ++ k2) cs -> Shape k1 (cs.take k1.length) /\ Shape k2 (cs.drop k1.length)
 | [], _, cs, h => by simpa using ⟨trivial, h⟩
 | k :: k1, k2, [], h => h.elim
 | k :: k1, k2, c :: cs, h => by
  have := Shape.take (k1 := k1) (k2 := k2) h.2
  exact ⟨⟨h.1, this.1⟩, this.2⟩
section
variable {P : Program} (w : World)
theorem g9 {e D off : Nat} {ks : List CK} {xs : Array Value} (hk : aP P D e = some ks) (hs : Shape ks ((xs.toList.drop off).take ks.length)) :
  ∃ a, (part e xs off).run P w = .ok a w /\ a.formed P e = true /\ a.cells.toList = (xs.toList.drop off).take ks.length := by
 cases D with
 | zero => simp [aP] at hk
 | succ D =>
  have one : ∀ k, ks = [k] -> P.plainKey e = true -> (∀ v, k.sh v -> v.formed P e = true /\ v.cells = #[v]) -> ∃ a, (part e xs off).run P w = .ok a w /\ a.formed P e = true /\ a.cells.toList = (xs.toList.drop off).take ks.length := by
   rintro k rfl hp hf
   have hl := hs.len
   match hc : (xs.toList.drop off).take [k].length, hl, hs with
   | [v], _, hs =>
    have h1 := hf v hs.1
    exact ⟨v, run_part_plain w hp (getElem?_of_chunk hc), h1.1, by rw [h1.2]⟩
  have agg : P.cellsOf e = ks.length -> ((∃ n e', P.underlying e = some (.array n e')) \/ ∃ fs, P.underlying e = some (.struct fs)) -> ∃ a, (part e xs off).run P w = .ok a w /\ a.formed P e = true /\ a.cells.toList = (xs.toList.drop off).take ks.length := by
   intro hc hu
   have hx : ∃ i, P.info? e = some i := by
    rcases hu with ⟨n, e', hu⟩ | ⟨fs, hu⟩ <;> exact info_of_underlying hu
   obtain ⟨i, hi⟩ := hx
   have hl : (xs.extract off (off + P.cellsOf e)).toList = (xs.toList.drop off).take (P.cellsOf e) := by
    rw [Array.toList_extract]
    simp [List.extract]
   have hlen := hs.len
   rw [<- hc] at hlen ⊢
   refine ⟨.agg (xs.extract off (off + P.cellsOf e)), ?_, ?_, hl⟩
   ·rcases hu with ⟨n, e', hu⟩ | ⟨fs, hu⟩ <;> simp [part, isAgg, run_underlying hu, run_sizeOf w hi]
   ·have hsz : (xs.extract off (off + P.cellsOf e)).size = P.cellsOf e := by rw [<- Array.length_toList, hl, hlen]
    rcases hu with ⟨n, e', hu⟩ | ⟨fs, hu⟩ <;> simp [Value.formed, hu, hsz]
  simp only [aP] at hk
  split at hk
  ·rename_i k hu
   simp only [Option.some.injEq] at hk
   exact one _ hk.symm (by simp [Program.plainKey, hu]) (fun v ⟨n, hv⟩ => by subst hv; simp [Value.formed, hu, Value.cells])
  ·rename_i hu
   simp only [Option.some.injEq] at hk
   exact one _ hk.symm (by simp [Program.plainKey, hu]) (fun v ⟨n, hv⟩ => by subst hv; simp [Value.formed, hu, Value.cells])
  ·rename_i hu
   simp only [Option.some.injEq] at hk
   exact one _ hk.symm (by simp [Program.plainKey, hu]) (fun v ⟨n, hv⟩ => by subst hv; simp [Value.formed, hu, Value.cells])
  ·rename_i fs hu
   split at hk
   ·split at hk
    ·rename_i hc
     simp only [Option.some.injEq] at hk
     subst hk
     exact agg hc (.inr ⟨_, hu⟩)
    ·cases hk
   ·cases hk
  ·rename_i n e' hu
   split at hk
   ·split at hk
    ·rename_i k hk2 hc
     simp only [Option.some.injEq] at hk
     subst hk
     exact agg (by rw [hc.2]; simp) (.inl ⟨_, _, hu⟩)
    ·cases hk
   ·cases hk
  ·cases hk
end
def In (P : Program) (dd : Nat) (e : TypeId) (ks : List CK) : Prop :=
 ∀ (w : World) (a b : Value), a.formed P e = true -> b.formed P e = true -> Shape ks a.cells.toList -> Shape ks b.cells.toList -> ∃ r : Bool, (Op.equalIn dd e a b).run P w = .ok r w /\ (r = true ↔ a.cells.toList = b.cells.toList)
section
variable {P : Program} (w : World)
theorem jm (l : List α) (o m n : Nat) : (l.drop o).take (m + n) = (l.drop o).take m ++ (l.drop (o + m)).take n := by rw [List.take_add, List.drop_drop]
theorem uK {a b c d : List α} (h : a.length = b.length) : a ++ c = b ++ d ↔ a = b /\ c = d := ⟨fun e => List.append_inj e h, fun ⟨e1, e2⟩ => by rw [e1, e2]⟩
theorem n1 (D dd : Nat) (xs ys : Array Value) : ∀ (fs : List Field) (off : Nat) (ks : List CK), gv P (aP P D) fs off = some ks -> (∀ f ∈ fs, f.name ≠ "_" /\ ∀ k, aP P D f.type = some k -> In P dd f.type k) ->
  Shape ks ((xs.toList.drop off).take ks.length) -> Shape ks ((ys.toList.drop off).take ks.length) ->
  ∃ r : Bool, (Op.eqFields dd xs ys fs).run P w = .ok r w /\ (r = true ↔ (xs.toList.drop off).take ks.length = (ys.toList.drop off).take ks.length)
 | [], off, ks, h, _, _, _ => by
  simp only [gv, Option.some.injEq] at h
  subst h
  exact ⟨true, by simp [Op.eqFields], by simp⟩
 | f :: fs, off, ks, h, hall, hx, hy => by
  simp only [gv] at h
  split at h
  ·rename_i k hk
   split at h
   ·rename_i hc
    cases hr : gv P (aP P D) fs (off + k.length) with
    | none => simp [hr] at h
    | some ks' =>
     simp only [hr, Option.map_some, Option.some.injEq] at h
     subst h
     obtain ⟨hn, hp⟩ := hall f (by simp)
     rw [List.length_append, jm] at hx hy ⊢
     rw [jm]
     have h1 := hx.take
     have h2 := hy.take
     have lx := hx.len
     have ly := hy.len
     simp only [List.length_append, List.length_take, List.length_drop] at lx ly
     have ex : ((xs.toList.drop off).take k.length).length = k.length := by rw [List.length_take, List.length_drop]; omega
     have ey : ((ys.toList.drop off).take k.length).length = k.length := by rw [List.length_take, List.length_drop]; omega
     rw [List.take_left' ex, List.drop_left' ex] at h1
     rw [List.take_left' ey, List.drop_left' ey] at h2
     obtain ⟨a, pa, fa, ca⟩ := g9 w hk h1.1
     obtain ⟨b, pb, fb, cb⟩ := g9 w hk h2.1
     obtain ⟨r, hr1, hr2⟩ := hp k hk w a b fa fb (by rw [ca]; exact h1.1) (by rw [cb]; exact h2.1)
     obtain ⟨r', hr', hr2'⟩ := n1 D dd xs ys fs (off + k.length) ks' hr (fun g hg => hall g (by simp [hg])) h1.2 h2.2
     rw [ca, cb] at hr2
     simp only [Op.eqFields, hn, ne_eq, not_false_eq_true, if_true, Sem.run_bind, Result.andThen_ok, hc.1, pa, pb, hr1, uK (ex.trans ey.symm)]
     cases r
     ·exact ⟨false, by simp, by simp; intro e; exact absurd (hr2.2 e) (by simp)⟩
     ·refine ⟨r', by simpa using hr', ?_⟩
      rw [hr2']
      simp [hr2.1 rfl]
   ·cases h
  ·cases h
theorem pg (D dd : Nat) {e : TypeId} {k : List CK} (hk : aP P D e = some k) (hc : P.cellsOf e = k.length) (IH : In P dd e k) (xs ys : Array Value) : ∀ (n i : Nat),
  Shape (List.replicate n k).flatten ((xs.toList.drop (i * k.length)).take (n * k.length)) -> Shape (List.replicate n k).flatten ((ys.toList.drop (i * k.length)).take (n * k.length)) ->
  ∃ r : Bool, (Op.eqItems dd e (P.cellsOf e) xs ys (List.range' i n)).run P w = .ok r w /\ (r = true ↔ (xs.toList.drop (i * k.length)).take (n * k.length) = (ys.toList.drop (i * k.length)).take (n * k.length))
 | 0, i, _, _ => ⟨true, by simp [Op.eqItems], by simp⟩
 | n + 1, i, hx, hy => by
  have hm : (n + 1) * k.length = k.length + n * k.length := by rw [Nat.add_mul, Nat.one_mul, Nat.add_comm]
  have hi : i * k.length + k.length = (i + 1) * k.length := by rw [Nat.add_mul, Nat.one_mul]
  rw [hm, jm, hi] at hx hy
  rw [hm, jm, jm, hi]
  rw [List.replicate_succ, List.flatten_cons] at hx hy
  have h1 := hx.take
  have h2 := hy.take
  have lx := hx.len
  have ly := hy.len
  simp only [List.length_append, List.length_take, List.length_drop, List.length_flatten, List.map_replicate, List.sum_replicate_nat] at lx ly
  have ex : ((xs.toList.drop (i * k.length)).take k.length).length = k.length := by rw [List.length_take, List.length_drop]; omega
  have ey : ((ys.toList.drop (i * k.length)).take k.length).length = k.length := by rw [List.length_take, List.length_drop]; omega
  rw [List.take_left' ex, List.drop_left' ex] at h1
  rw [List.take_left' ey, List.drop_left' ey] at h2
  obtain ⟨a, pa, fa, ca⟩ := g9 w hk h1.1
  obtain ⟨b, pb, fb, cb⟩ := g9 w hk h2.1
  obtain ⟨r, hr1, hr2⟩ := IH w a b fa fb (by rw [ca]; exact h1.1) (by rw [cb]; exact h2.1)
  obtain ⟨r', hr', hr2'⟩ := pg D dd hk hc IH xs ys n (i + 1) h1.2 h2.2
  rw [ca, cb] at hr2
  rw [List.range'_succ]
  simp only [Op.eqItems, Sem.run_bind, Result.andThen_ok, hc, pa, pb, hr1, uK (ex.trans ey.symm)]
  rw [hc] at hr'
  cases r
  ·exact ⟨false, by simp, by simp; intro e; exact absurd (hr2.2 e) (by simp)⟩
  ·refine ⟨r', by simpa using hr', ?_⟩
   rw [hr2']
   simp [hr2.1 rfl]
end
theorem HZ {P : Program} (d : Nat) : ∀ (D : Nat) (t : TypeId) (ks : List CK), aP P D t = some ks -> P.keyTypeAt D t = true -> In P (d + D) t ks
 | 0, _, _, h, _ => by simp [aP] at h
 | D + 1, t, ks, h, hk => by
  intro w a b fa fb sa sb
  have cell : ∀ k, ks = [k] -> (∀ v, a.cells.toList = [v] -> a = v) -> (∀ v, b.cells.toList = [v] -> b = v) ->
    (∀ u v, k.sh u -> k.sh v -> ∃ r : Bool, (Op.equalIn (d + D + 1) t u v).run P w = .ok r w /\ (r = true ↔ u = v)) -> ∃ r : Bool, (Op.equalIn (d + (D + 1)) t a b).run P w = .ok r w /\ (r = true ↔ a.cells.toList = b.cells.toList) := by
   rintro k rfl ha hb hu
   match ea : a.cells.toList, sa.len, sa with
   | [u], _, sa =>
    match eb : b.cells.toList, sb.len, sb with
    | [v], _, sb =>
     obtain ⟨r, h1, h2⟩ := hu u v sa.1 sb.1
     refine ⟨r, ?_, by simpa using h2⟩
     rw [ha u ea, hb v eb]
     exact h1
  have nagg : ∀ (x : Value), x.formed P t = true -> (∀ xs, x ≠ .agg xs) -> ∀ v, x.cells.toList = [v] -> x = v := by
   intro x hx hn v hv
   cases x <;> simp_all [Value.cells, Value.formed]
  simp only [aP] at h
  unfold Program.keyTypeAt at hk
  split at h
  ·rename_i k hu
   simp only [Option.some.injEq] at h
   refine cell _ h.symm (nagg a fa ?_) (nagg b fb ?_) ?_
   ·rintro xs rfl; simp [Value.formed, hu] at fa
   ·rintro xs rfl; simp [Value.formed, hu] at fb
   ·rintro u v ⟨x, rfl⟩ ⟨y, rfl⟩
    exact ⟨x == y, run_equalIn_int w _ t k k x y hu, by simp⟩
  ·rename_i hu
   simp only [Option.some.injEq] at h
   refine cell _ h.symm (nagg a fa ?_) (nagg b fb ?_) ?_
   ·rintro xs rfl; simp [Value.formed, hu] at fa
   ·rintro xs rfl; simp [Value.formed, hu] at fb
   ·rintro u v ⟨x, rfl⟩ ⟨y, rfl⟩
    exact ⟨x == y, run_equalIn_bool w _ t x y hu, by simp⟩
  ·rename_i hu
   simp only [Option.some.injEq] at h
   refine cell _ h.symm (nagg a fa ?_) (nagg b fb ?_) ?_
   ·rintro xs rfl; simp [Value.formed, hu] at fa
   ·rintro xs rfl; simp [Value.formed, hu] at fb
   ·rintro u v ⟨x, rfl⟩ ⟨y, rfl⟩
    exact ⟨x.toList == y.toList, run_equalIn_string w _ t x y hu, by rw [bytes_beq]; simp⟩
  ·rename_i fs hu
   simp only [hu, Bool.and_eq_true, Bool.not_eq_true'] at hk
   split at h
   ·rename_i ks' hks
    split at h
    ·rename_i hlen
     simp only [Option.some.injEq] at h
     subst h
     cases a <;> simp only [Value.formed, hu, Bool.false_eq_true] at fa
     cases b <;> simp only [Value.formed, hu, Bool.false_eq_true] at fb
     rename_i xs ys
     simp only [Value.cells] at sa sb ⊢
     have lx := sa.len
     have ly := sb.len
     have hfs : P.fieldsOf t = fs := by simp [Program.fieldsOf, hu]
     obtain ⟨r, h1, h2⟩ := n1 w D (d + D) xs ys fs.toList 0 ks' hks (fun f hf => by
      have := hk.1.1
      rw [Array.all_eq_true_iff_forall_mem] at this
      have := this f (by simpa using hf)
      simp only [Bool.and_eq_true, bne_iff_ne, ne_eq] at this
      exact ⟨this.1, fun k hk' => HZ d D f.type k hk' this.2⟩) (by simpa [List.take_of_length_le, lx] using sa) (by simpa [List.take_of_length_le, ly] using sb)
     refine ⟨r, ?_, ?_⟩
     ·rw [show d + (D + 1) = (d + D) + 1 from rfl, run_equalIn_struct w (d + D) t xs ys (by rw [hfs]; exact hu) hk.2, hfs]
      exact h1
     ·rw [h2, List.drop_zero, List.drop_zero, List.take_of_length_le (by omega), List.take_of_length_le (by omega)]
    ·cases h
   ·cases h
  ·rename_i n e hu
   simp only [hu] at hk
   split at h
   ·rename_i k hk2
    split at h
    ·rename_i hc
     simp only [Option.some.injEq] at h
     subst h
     cases a <;> simp only [Value.formed, hu, Bool.false_eq_true] at fa
     cases b <;> simp only [Value.formed, hu, Bool.false_eq_true] at fb
     rename_i xs ys
     simp only [Value.cells] at sa sb ⊢
     have lx := sa.len
     have ly := sb.len
     simp only [List.length_flatten, List.map_replicate, List.sum_replicate_nat] at lx ly
     have hie : ∃ i, P.info? e = some i := by
      cases D with
      | zero => simp [aP] at hk2
      | succ D' =>
       simp only [aP] at hk2
       cases hue : P.underlying e with
       | none => simp [hue] at hk2
       | some _ => exact info_of_underlying hue
     obtain ⟨i, hi⟩ := hie
     obtain ⟨r, h1, h2⟩ := pg w D (d + D) hk2 hc.1 (HZ d D e k hk2 hk) xs ys n 0 (by rw [Nat.zero_mul, List.drop_zero, List.take_of_length_le (by omega)]; exact sa) (by rw [Nat.zero_mul, List.drop_zero, List.take_of_length_le (by omega)]; exact sb)
     refine ⟨r, ?_, ?_⟩
     ·rw [show d + (D + 1) = (d + D) + 1 from rfl, run_equalIn_array w (d + D) xs ys hu hi, List.range_eq_range']
      exact h1
     ·rw [h2, Nat.zero_mul, List.drop_zero, List.drop_zero, List.take_of_length_le (by omega), List.take_of_length_le (by omega)]
    ·cases h
   ·cases h
  ·cases h
variable {prog : Program} {σ : World} {n : Nat} {E : Env} {Pr : ab}
class EqT (prog : Program) (t : TypeId) (ks : outParam (List CK)) : Prop where
 b : aP prog 20 t = some ks /\ prog.keyTypeAt 20 t = true /\ prog.eqGuardType prog.depth t = false /\ i2 prog t gS = true := by kernel_rfl
theorem EqT.run [h : EqT prog t ks] (hl : Shape ks l) (hr : Shape ks r) (w : World) : ∃ c : Bool, (Op.equalIn 10000 t (.agg l.toArray) (.agg r.toArray)).run prog w = .ok c w /\ (c = true ↔ l = r) := by
 obtain ⟨h1, h2, _, h4⟩ := h.b
 have hf : ∀ l : List Value, Shape ks l -> (Value.agg l.toArray).formed prog t = true := by
  intro l hl
  obtain ⟨d, hd, h5⟩ := cM h4
  have hll := hl.len
  simp only [aP, hd] at h1
  unfold gS at h5
  split at h5
  ·rename_i fs
   simp only at h1
   split at h1
   ·split at h1
    ·rename_i hc
     simp only [Option.some.injEq] at h1
     subst h1
     simp [Value.formed, hd, hc, hll]
    ·cases h1
   ·cases h1
  ·rename_i m e
   simp only at h1
   split at h1
   ·split at h1
    ·rename_i hc
     simp only [Option.some.injEq] at h1
     subst h1
     simp only [List.length_flatten, List.map_replicate, List.sum_replicate_nat] at hll
     simp [Value.formed, hd, hc.2, hll]
    ·cases h1
   ·cases h1
  ·cases h5
 have := HZ (P := prog) 9980 20 t ks h1 h2 w (.agg l.toArray) (.agg r.toArray) (hf l hl) (hf r hr) hl hr
 simpa [Value.cells] using this
open Classical in
theorem gI [h : EqT prog t ks] (hx : ev E x = some (.agg l.toArray)) (hy : ev E y = some (.agg r.toArray)) (hl : Shape ks l) (hr : Shape ks r) :
  OpV prog σ n E Pr ⟨d, .binOp .eql t x y t', ty, pos, aft, g⟩ (.bool (decide (l = r))) := fun _ w ha _ => by
 obtain ⟨c, h1, h2⟩ := EqT.run (prog := prog) (t := t) hl hr w
 have : c = decide (l = r) := by cases c <;> simp_all
 subst this
 simp only [execOp, ha.ev hx, ha.ev hy, Sem.run_bind, run_eqGuard_agg w .eql t x y _ _ h.b.2.2.1, Result.andThen_ok, run_eql_struct, h1, Sem.run_pure]
open Classical in
theorem hY [h : EqT prog t ks] (hx : ev E x = some (.agg l.toArray)) (hy : ev E y = some (.agg r.toArray)) (hl : Shape ks l) (hr : Shape ks r) :
  OpV prog σ n E Pr ⟨d, .binOp .neq t x y t', ty, pos, aft, g⟩ (.bool (decide (l ≠ r))) := fun _ w ha _ => by
 obtain ⟨c, h1, h2⟩ := EqT.run (prog := prog) (t := t) hl hr w
 have : (!c) = decide (l ≠ r) := by cases c <;> simp_all
 simp only [execOp, ha.ev hx, ha.ev hy, Sem.run_bind, run_eqGuard_agg w .neq t x y _ _ h.b.2.2.1, Result.andThen_ok, run_neq_struct, h1, Sem.run_pure, this]
theorem FSpec.frame {prog : Program} {f : FuncId} {args : Array Value} {P : ab} {X : Type} {φ : X -> Prop} {val : X -> Value} {Qo : X -> ab} (h : FSpec prog f args P φ val Qo) (R : ab) : FSpec prog f args (aa (P) (R)) φ val (fun x => (aa (Qo x) (R))) := fun σ w F hs => by
 rw [ak] at hs
 exact (h σ w (aa (R) (F)) hs).mono fun e w' ⟨x, hx, he, hs'⟩ => ⟨x, hx, he, by rw [ak]; exact hs'⟩
theorem OpV.bool_t (h : OpV prog σ n E Pr o (.bool (@decide p inst))) (hp : p) : OpV prog σ n E Pr o (.bool true) := by rwa [decide_eq_true hp] at h
theorem OpV.bool_f (h : OpV prog σ n E Pr o (.bool (@decide p inst))) (hp : ¬ p) : OpV prog σ n E Pr o (.bool false) := by rwa [decide_eq_false hp] at h
end
section
variable {s : ByteArray} {v : Value} {src dst e ty : TypeId} {w : World} {b c j tx B len : Nat} {zs l : List Value}
def bV (s : ByteArray) : List Value := s.data.toList.map fun b => .int .u8 b.toNat
theorem dK (s : ByteArray) : (bV s).length = s.size := by unfold bV; rw [List.length_map, Array.length_toList]; rfl
theorem jo (s : ByteArray) : ∀ u ∈ bV s, u.oneCell' = true := by
 intro u hu
 unfold bV at hu
 obtain ⟨_, _, rfl⟩ := List.mem_map.1 hu
 rfl
theorem dC (s r : ByteArray) : bV (s ++ r) = bV s ++ bV r := by unfold bV; simp
theorem qt (s : ByteArray) (i : Nat) (h : i < s.size) : (bV s)[i]? = some (.int .u8 (qr s i)) := by
 have : i < s.data.toList.length := by rw [Array.length_toList]; exact h
 unfold bV qr
 rw [List.getElem?_map, List.getElem?_eq_getElem this, List.getD_eq_getElem?_getD, List.getElem?_eq_getElem this]
 rfl
theorem iG (h : s.size = 0) : s = ByteArray.empty := by
 cases s with
 | mk d =>
  have : d = #[] := Array.eq_empty_of_size_eq_zero h
  rw [this]; rfl
variable {prog : Program} {σ : World} {n : Nat} {Q : Exit -> Act -> World -> Prop} {E : Env} {P R : ab}
theorem OpV.as {o : Oper} {v' : Value} (h : OpV prog σ n E P o v) (e : v = v') : OpV prog σ n E P o v' := e ▸ h
section
variable {d : Option Tmp} {ty : TypeId} {pos : String} {aft : Array Edge} {g : Option (Nat × Bool)} {x y : Operand} {t t' : TypeId} {u v : Value} {s : ByteArray}
theorem nm [Slc prog src e 1] [IntT prog e .u8] [Str prog dst] (hx : ev E x = some u) (hs : Src P u s.size (bV s)) : OpV prog σ n E P ⟨d, .convert src dst x, ty, pos, aft, g⟩ (.string s) := fun a w ha hw => by
 have h1 := (Slc.spec (prog := prog) src e 1).1
 have h2 := IntT.spec (prog := prog) e .u8
 have h3 := Str.spec (prog := prog) dst
 rcases hs with ⟨rfl, hz, _⟩ | ⟨b, o, c, rfl, hr⟩
 ·have := run_convert_bytes_string w src dst e none 0 0 h1 h2 h3
  simp only [execOp, ha.ev hx, Sem.run_bind, this, Conv.bytesToString, Sem.run_pure, Result.andThen_ok]
  rw [iG hz]
 ·have := run_convert_bytes_back (P := prog) w src dst e (ad b o) c s.data.toList h1 h2 h3 (fun j hj => by
   rw [db]
   refine hr j _ ?_ σ w hw
   unfold bV
   rw [List.getElem?_map, List.getElem?_eq_getElem hj]
   rfl)
  rw [Array.length_toList] at this
  have this : (convert src dst (.slice (some (ad b o)) s.size c)).run prog w = .ok (.string ⟨s.data.toList.toArray⟩) w := this
  simp only [execOp, ha.ev hx, Sem.run_bind, this, Sem.run_pure, Result.andThen_ok, Array.toArray_toList]
end
section
variable {d : Nat} {ty : TypeId} {pos : String} {aft : Array Edge} {g : Option (Nat × Bool)} {x y : Operand} {s : ByteArray} {v : Value}
def byb (b : Nat) (s : ByteArray) (c : Nat) (e : TypeId) : ab := blk b (.cells (bytesRow s c) e ((bytesRow s c).size, (bytesRow s c).size + 1))
theorem dV [Str prog src] [Slc prog dst e 1] [IntT prog e .u8] (hx : ev E x = some (.string s)) (hd : Nat.blt d n = true) :
  OpX prog σ n E P ⟨some d, .convert src dst x, ty, pos, aft, g⟩ (fun _ : Nat × Nat => True) (fun r => (d, .slice (some (ad r.1 0)) s.size r.2) :: E) (fun r => (aa (byb r.1 s r.2 e) (P))) := by
 refine bI rfl hd fun a w ha hw => ?_
 have h1 := (Slc.spec (prog := prog) dst e 1).1
 have h2 := IntT.spec (prog := prog) e .u8
 have h3 := Str.spec (prog := prog) src
 refine ⟨(w.heap.size, grownCap w s.size 0 e), _, trivial, ?_, hw.drew.alloc _⟩
 simp only [execOp, ha.ev hx, Sem.run_bind, run_bytes_of_string (P := prog) w src dst e s h3 h1 h2, Sem.run_pure, Result.andThen_ok]
end
theorem pN (h : Sat σ w (aa (byb b s c e) (P))) (hj : j < s.size) : w.cell? (ad b j) = some (.int .u8 (qr s j)) := by
 have hb := h.blk
 have : j < s.data.toList.length := by rw [Array.length_toList]; exact hj
 have hj' : j < s.data.size := hj
 unfold World.cell?
 simp only [hb, ad]
 simp only [Option.isSome_none, Bool.false_eq_true, if_false]
 unfold bytesRow qr
 rw [Array.getElem?_append_left (by simpa using hj')]
 rw [Array.getElem?_map, Array.getElem?_eq_getElem hj', List.getD_eq_getElem?_getD, List.getElem?_eq_getElem this]
 simp
theorem Rd.byb [h : Take P (SLA.byb b s c e) R] (hj : j < s.size) : Rd P b j (.int .u8 (qr s j)) := fun σ w hs => by
 rw [h.eq] at hs
 exact pN hs hj
theorem mP {t e : Nat} [Slc prog t e 1] [Str prog tx] [Zer prog e zs] [Byt prog e B] (hzl : zs.length = 1) (hs : Sat σ w (aa (Ow e 1 v len l) (P)))
  (h63 : len + s.size <= maxLen) (hB : (len + s.size) * B <= 140737488355328) :
  ∃ A c w', (Builtin.append_ #[t, tx] ty #[v, .string s]).run prog w = .ok (.slice A (len + s.size) c) w' /\ Sat σ w' (aa (Ow e 1 (.slice A (len + s.size) c) (len + s.size) (l ++ bV s)) (P)) := by
 suffices hh : ∃ v' w', (Builtin.append_ #[t, tx] ty #[v, .string s]).run prog w = .ok v' w' /\ Sat σ w' (aa (Ow e 1 v' (len + s.size) (l ++ bV s)) (P)) by
  obtain ⟨v', w', h1, h2⟩ := hh
  obtain ⟨A, c, rfl, _⟩ := uu h2
  exact ⟨A, c, w', h1, h2⟩
 obtain ⟨ht, i, hi, hsz⟩ := Slc.spec (prog := prog) t e 1
 have htx := Str.spec (prog := prog) tx
 obtain ⟨i', z, hi', hz, hzc⟩ := Zer.spec (prog := prog) e zs
 obtain rfl : i = i' := Option.some.inj (hi.symm.trans hi')
 obtain ⟨i', hi'', hb⟩ := Byt.spec (prog := prog) e B
 obtain rfl : i = i' := Option.some.inj (hi.symm.trans hi'')
 have hl : (bV s).length = s.size * 1 := by rw [dK, Nat.mul_one]
 have hzsz : z.cells.size = 1 := by rw [<- Array.length_toList, hzc, hzl]
 have hsmall : len + s.size <= 9223372036854775807 := by simp only [maxLen] at h63; omega
 have hsrc : ∀ w : World, Go.Src prog i.size tx (.string s) s.size (bV s) w := fun w => by rw [hsz]; exact Go.Src.ofString w htx s
 have fresh : ∀ (P' : ab), Sat σ w P' -> ∀ (olds : List Value) (old : Nat), olds.length = len * 1 -> old < len + s.size ->
   Sat σ (w.drew.alloc (.cells ((olds ++ bV s).toArray ++ Builtin.zeroCells z.cells (grownCap w (len + s.size) old e - (len + s.size))) e))
    (aa (Ow e 1 (.slice (some ⟨w.heap.size, 0, none⟩) (len + s.size) (grownCap w (len + s.size) old e)) (len + s.size) (olds ++ bV s)) (P')) := by
  intro P' hP' olds old ho _
  have hge := grownCap_ge w (len + s.size) old e
  have hle := grownCap_le_maxLen w (len + s.size) old e h63
  have h2 := hP'.drew.alloc (.cells ((olds ++ bV s).toArray ++ Builtin.zeroCells z.cells (grownCap w (len + s.size) old e - (len + s.size))) e)
  have e1 : ((olds ++ bV s).toArray ++ Builtin.zeroCells z.cells (grownCap w (len + s.size) old e - (len + s.size))) = ([] ++ (olds ++ bV s) ++ (Builtin.zeroCells z.cells (grownCap w (len + s.size) old e - (len + s.size))).toList).toArray := by
   apply Array.toList_inj.1; simp
  rw [e1] at h2 ⊢
  refine h2.ent (Ent.frame (Ow.mk rfl hge hle (by rw [List.length_append, ho, hl, Nat.add_mul]) ?_) P')
  rw [Array.length_toList, size_zeroCells, hzsz]
  exact Nat.le_refl _
 rcases fg hs with ⟨rfl, rfl, rfl, hP⟩ | ⟨b, cap, pre, post, rfl, hc1, hc2, hc3, hc4, hP⟩
 ·by_cases hk : s.size = 0
  ·have he := iG hk
   subst he
   refine ⟨.slice none 0 0, w, ?_, hs⟩
   have hfc := firstCells_string (P := prog) ByteArray.empty w
   simp only [Builtin.append_, List.getElem?_toArray, List.getElem?_cons_zero, List.getElem?_cons_succ, Sem.run_bind, ba ht, ba htx, Result.andThen_ok, bk hi, Sem.run_pure, Builtin.lenOf, hsz, Sem.run_ite, Bool.false_eq_true, if_false, Bool.not_false, if_true, ByteArray.size_empty, Nat.add_zero, Nat.le_refl] at hfc ⊢
   rw [hfc]
   rfl
  ·have hr' := run_append_grow_src (P := prog) w t tx ty e i z ht hi hz none 0 0 [] (by simp [Builtin.firstCells]) (.string s) s.size (bV s) (hsrc w) (by omega) (by omega) (by
    have := nextslicecap_zero (need := s.size) (by omega)
    rw [Nat.zero_add, this, hb]
    simp only [Nat.zero_add] at hB
    omega)
   exact ⟨_, _, hr', fresh P hP [] 0 (by simp) (by omega)⟩
 ·have hold : ∀ j u, l[j]? = some u -> w.cell? ((ad b pre.length).add j) = some u := fun j u hj => by
   have hjl : j < l.length := by
    rcases Nat.lt_or_ge j l.length with h | h
    ·exact h
    ·rw [List.getElem?_eq_none h] at hj; cases hj
   rw [db, fZ hP, lK _ _ _ _ hjl, hj]
  by_cases hroom : len + s.size <= cap
  ·have hfc : (Builtin.firstCells 1 s.size (.string s)).run prog w = .ok (bV s).toArray w := firstCells_string (P := prog) s w
   have hlen : (pre ++ l ++ post).length = pre.length + len * 1 + post.length := by simp [hc3]; omega
   have hfit : pre.length + len * 1 + 0 + (bV s).length <= (pre ++ l ++ post).toArray.size := by
    rw [List.size_toArray, hlen, hl]
    omega
   have hst := run_storeCells_at prog b (pre.length + len * 1) e (bV s) 0 (pre ++ l ++ post).toArray w hP.blk hfit (jo s)
   simp only [Nat.add_zero] at hst
   have e2 : (pre ++ l ++ post).take (pre.length + len * 1) ++ bV s ++ (pre ++ l ++ post).drop (pre.length + len * 1 + (bV s).length) = pre ++ (l ++ bV s) ++ post.drop (bV s).length := by
    have a1 : (pre ++ l ++ post).take (pre.length + len * 1) = pre ++ l := List.take_left' (by simp [hc3])
    have a2 : (pre ++ l ++ post).drop (pre.length + len * 1 + (bV s).length) = post.drop (bV s).length := by
     rw [<- List.drop_drop, List.drop_left' (by simp [hc3])]
    rw [a1, a2]; simp
   have hst' : (storeCells ((ad b pre.length).add (len * 1)) (bV s) 0).run prog w = .ok () (w.setRow b (pre ++ (l ++ bV s) ++ post.drop (bV s).length).toArray) := by
    rw [db, <- e2]; exact hst
   have h5 : Sat σ (w.setRow b (pre ++ (l ++ bV s) ++ post.drop (bV s).length).toArray) (aa (am b (pre ++ (l ++ bV s) ++ post.drop (bV s).length) e) (P)) := fM hP
   refine ⟨.slice (some (ad b pre.length)) (len + s.size) cap, w.setRow b (pre ++ (l ++ bV s) ++ post.drop (bV s).length).toArray, ?_, ?_⟩
   ·simp only [Builtin.append_, List.getElem?_toArray, List.getElem?_cons_zero, List.getElem?_cons_succ, Sem.run_bind, ba ht, ba htx, Result.andThen_ok, bk hi, Sem.run_pure, Builtin.lenOf, hsz, hroom, if_true, hfc, hst', Sem.run_ite, Bool.false_eq_true, if_false, Bool.not_false]
   ·refine h5.ent (Ent.frame (Ow.mk rfl hroom hc2 (by rw [List.length_append, hc3, hl, Nat.add_mul]) ?_) P)
    rw [List.length_drop, hl]
    omega
  ·have hr' := run_append_grow_src (P := prog) w t tx ty e i z ht hi hz (some (ad b pre.length)) len cap l (by
    have h5 := run_firstCells_some (P := prog) w.drew i.size len (ad b pre.length) len cap l (by rw [hc3, hsz]) (fun j u hj => by simpa using hold j u hj)
    exact h5) (.string s) s.size (bV s) (hsrc w) (by omega) (by omega) (growslice_fits (by omega) (by rw [hb]; exact hB))
   exact ⟨_, _, hr', fresh P hP.drop l cap hc3 (by omega)⟩
theorem rI {d : Nat} {x y : Operand} {t e : Nat} {pos : String} {aft : Array Edge} {g : Option (Nat × Bool)} [Slc prog t e 1] [Str prog tx] [Zer prog e zs] [Byt prog e B] (hx : ev E x = some v) (hy : ev E y = some (.string s)) [hT : FOwn P e 1 v len l R]
  (hzl : zs.length = 1) (h63 : len + s.size <= maxLen) (hB : (len + s.size) * B <= 140737488355328) (hd : Nat.blt d n = true) :
  OpX prog σ n E P ⟨some d, .call ⟨.builtin .append, #[x, y], #[t, tx]⟩, ty, pos, aft, g⟩ (fun _ : Option Addr × Nat => True) (fun r => (d, .slice r.1 (len + s.size) r.2) :: E) (fun r => (aa (Ow e 1 (.slice r.1 (len + s.size) r.2) (len + s.size) (l ++ bV s)) (R))) := by
 refine bI rfl hd fun a w ha hw => ?_
 rw [hT.eq] at hw
 obtain ⟨A, c, w', hr, hs'⟩ := mP (prog := prog) (t := t) (tx := tx) (ty := ty) hzl hw h63 hB
 refine ⟨(A, c), w', trivial, ?_, hs'⟩
 simp only [execOp, resolve, List.map_toArray, List.map_cons, List.map_nil, ha.ev hx, ha.ev hy, Sem.run_bind, Sem.run_pure, Result.andThen_ok, invoke, builtin, hr]
end
section
variable {a : Int} {m src dst e len : Nat} {R : ab} {l : List Value} {te : TypeId}
variable {prog : Program} {σ : World} {n : Nat} {E : Env} {P : ab} {d : Option Tmp} {ty : TypeId} {pos : String} {aft : Array Edge} {g : Option (Nat × Bool)} {x y : Operand} {t t' : TypeId} {k : IntKind} {a b : Int}
theorem iN (hx : ev E x = some (.int k a)) (hy : ev E y = some (.int k b)) (h : k.wrap (a + b) = a + b) : OpV prog σ n E P ⟨d, .binOp .add t x y t', ty, pos, aft, g⟩ (.int k (a + b)) := (fI hx hy).as (by rw [h])
theorem xd (hx : ev E x = some (.int k a)) (hy : ev E y = some (.int k b)) (h : k.wrap (a - b) = a - b) : OpV prog σ n E P ⟨d, .binOp .sub t x y t', ty, pos, aft, g⟩ (.int k (a - b)) := (p7 hx hy).as (by rw [h])
theorem jM (hx : ev E x = some (.int k a)) (hy : ev E y = some (.int k b)) (h : k.wrap (a * b) = a * b) : OpV prog σ n E P ⟨d, .binOp .mul t x y t', ty, pos, aft, g⟩ (.int k (a * b)) := (p9 hx hy).as (by rw [h])
theorem nP (hx : ev E x = some (.int .i64 a)) (hy : ev E y = some (.int .i64 b)) (h : 0 <= a /\ a <= 9223372036854775807 /\ 1 <= b) : OpV prog σ n E P ⟨d, .binOp .quo t x y t', ty, pos, aft, g⟩ (.int .i64 (a / b)) := (p8 hx hy (by omega)).as (by rw [Go.IntWalk.i64_quo a b h])
theorem fu (hx : ev E x = some (.int k a)) (hy : ev E y = some (.int k b)) (h : 0 <= a /\ 1 <= b) : OpV prog σ n E P ⟨d, .binOp .rem t x y t', ty, pos, aft, g⟩ (.int k (a % b)) := (dA hx hy (by omega)).as (by rw [Go.IntWalk.rem_in a b h.1])
theorem bw {k' : IntKind} [IntT prog t k] [IntT prog t' k'] (hx : ev E x = some (.int k a)) (h : k'.wrap a = a) : OpV prog σ n E P ⟨d, .convert t t' x, ty, pos, aft, g⟩ (.int k' a) := (dX hx).as (by rw [h])
theorem xG (h : 0 <= a) : a.fdiv (2 ^ m) = a / 2 ^ m := by
 rw [Int.fdiv_eq_ediv_of_nonneg]
 exact Int.le_of_lt (Int.pow_pos (by decide))
theorem eW {yk : IntKind} (hx : ev E x = some (.int k a)) (hy : ev E y = some (.int yk b)) (h : 0 <= a /\ 0 <= b) : OpV prog σ n E P ⟨d, .binOp .shr t x y t', ty, pos, aft, g⟩ (.int k (a / 2 ^ (min b.toNat k.bits))) := (i7 hx hy h.2).as (by rw [xG h.1])
theorem lL {w : Nat} (hm : m <= w) (h : 0 <= a /\ a < 2 ^ w) : ((BitVec.ofInt w a &&& BitVec.ofInt w (2 ^ m - 1)).toNat : Int) = a % 2 ^ m := by
 obtain ⟨h0, h1⟩ := h
 obtain ⟨x, rfl⟩ : ∃ x : Nat, a = x := ⟨a.toNat, by omega⟩
 have hx : x < 2 ^ w := by exact_mod_cast h1
 have h2 : (2 : Int) ^ m - 1 = ((2 ^ m - 1 : Nat) : Int) := by
  have : 0 < 2 ^ m := Nat.pow_pos (by decide)
  rw [Int.natCast_sub (by omega)]
  simp
 have hp : 2 ^ m <= 2 ^ w := Nat.pow_le_pow_right (by decide) hm
 have hpos : 0 < 2 ^ m := Nat.pow_pos (by decide)
 rw [h2, BitVec.toNat_and, BitVec.toNat_ofInt, BitVec.toNat_ofInt]
 have e1 : ((x : Int) % ((2 ^ w : Nat) : Int)).toNat = x := by
  rw [<- Int.natCast_emod, Int.toNat_natCast, Nat.mod_eq_of_lt hx]
 have e2 : (((2 ^ m - 1 : Nat) : Int) % ((2 ^ w : Nat) : Int)).toNat = 2 ^ m - 1 := by
  rw [<- Int.natCast_emod, Int.toNat_natCast, Nat.mod_eq_of_lt (by omega)]
 rw [e1, e2, Nat.and_two_pow_sub_one_eq_mod]
 simp
theorem rN {u : Value} {s : ByteArray} [Slc prog src e 1] [IntT prog e .u8] [Str prog dst] (hx : ev E x = some u) [hT : FOwn P e 1 u len l R] (hl : l = bV s) : OpV prog σ n E P ⟨d, .convert src dst x, ty, pos, aft, g⟩ (.string s) := fun a w ha hw => by
 subst hl
 have h1 := (Slc.spec (prog := prog) src e 1).1
 have h2 := IntT.spec (prog := prog) e .u8
 have h3 := Str.spec (prog := prog) dst
 have hw' := hw
 rw [hT.eq] at hw'
 rcases fg hw' with ⟨rfl, rfl, h, _⟩ | ⟨b, cap, pre, post, rfl, _, _, h4, _, h6⟩
 ·refine nm hx (.inl ⟨rfl, ?_, h⟩) a w ha hw
  have := congrArg List.length h
  rwa [dK] at this
 ·rw [dK, Nat.mul_one] at h4
  subst h4
  have := run_convert_bytes_back (P := prog) w src dst e (ad b pre.length) cap s.data.toList h1 h2 h3 (fun j hj => by
   have hb : (bV s)[j]? = some (.int .u8 (s.data.toList[j].toNat : Int)) := by
    unfold bV
    rw [List.getElem?_map, List.getElem?_eq_getElem hj]
    rfl
   rw [db, fZ h6, lK _ _ _ _ (by rw [dK]; rw [Array.length_toList] at hj; exact hj), hb])
  rw [Array.length_toList] at this
  have this : (convert src dst (.slice (some (ad b pre.length)) s.size cap)).run prog w = .ok (.string ⟨s.data.toList.toArray⟩) w := this
  simp only [execOp, ha.ev hx, Sem.run_bind, this, Sem.run_pure, Result.andThen_ok, Array.toArray_toList]
def aY (l : List Int) : ByteArray := ⟨(l.map fun v => UInt8.ofNat v.toNat).toArray⟩
theorem aZ (l : List Int) : (aY l).size = l.length := by
 show (l.map fun v => UInt8.ofNat v.toNat).toArray.size = _
 simp
theorem jp : ∀ (l : List Int), (∀ v ∈ l, 0 <= v /\ v < 256) -> bV (aY l) = l.map (.int .u8)
 | l, h => by
  unfold bV aY
  rw [List.toList_toArray, List.map_map]
  refine List.map_congr_left fun v hv => ?_
  have := h v hv
  simp only [Function.comp_apply, UInt8.toNat_ofNat', Value.int.injEq, true_and]
  rw [Nat.mod_eq_of_lt (by omega)]
  omega
theorem iM {b k c : Nat} {cells : List Value} (l : List Int) [Slc prog src e 1] [IntT prog e .u8] [Str prog dst] (hx : ev E x = some (.slice (some (ad b 0)) k c)) [hk : Look P b cells te R] (hc : cells = l.map (.int .u8)) (hl : k = l.length) (h : ∀ v ∈ l, 0 <= v /\ v < 256) :
  OpV prog σ n E P ⟨d, .convert src dst x, ty, pos, aft, g⟩ (.string (aY l)) := by
 subst hl
 refine nm hx ?_
 have := Src.lit (P := P) (b := b) (l := cells) (te := te) (R := R) (k := l.length) (c := c)
 rw [jp l h, <- hc, aZ]
 exact this
theorem nZ : ∀ (l : List (Nat × Operand)) (k : Nat) (vs : List Value), evl E (l.map (·.2)) = some vs -> l.map (·.1) = List.range' k l.length -> evp E l = some (kQ k vs)
 | [], k, vs, h, _ => by
  simp only [List.map_nil, evl, Option.some.injEq] at h
  subst h
  rfl
 | (i, o) :: l, k, vs, h, hi => by
  simp only [List.map_cons, evl] at h
  simp only [List.map_cons, List.length_cons, List.range'_succ, List.cons.injEq] at hi
  obtain ⟨rfl, hi⟩ := hi
  split at h
  ·rename_i v vs' hv hvs
   simp only [Option.some.injEq] at h
   subst h
   have := nZ l (i + 1) vs' hvs hi
   simp only [evp, hv, this, kQ]
  ·cases h
theorem cL {d : Nat} {zs : List Value} {parts : Array (Nat × Operand)} {vs : List Value} [Slc prog t e 1] [Zer prog e zs] (he : evl E (parts.toList.map (·.2)) = some vs) (hi : parts.toList.map (·.1) = List.range' 0 parts.toList.length) (hl : vs.length = len) (hlen : len <= 16777216) (h1 : ∀ v ∈ vs, v.cells = #[v]) (hd : Nat.blt d n = true) :
  OpX prog σ n E P ⟨some d, .buildSlice t len parts, ty, pos, aft, g⟩ (fun _ : Nat => True) (fun b => (d, .slice (some (ad b 0)) len len) :: E) (fun b => (aa (am b vs e) (P))) :=
 m4 (nZ _ 0 vs he hi) hl hlen h1 hd
theorem eV {k b o : Nat} [Arr prog t k e m] (hx : ev E x = some (.pointer (some (ad b o)))) : OpV prog σ n E P ⟨d, .slice t x none none none, ty, pos, aft, g⟩ (.slice (some (ad b o)) k k) := fun _ w ha _ => by
 obtain ⟨h1, i, h2, h3⟩ := Arr.spec (prog := prog) t k e m
 simp only [execOp, ha.ev hx, Option.map_none, Instr.sliceAt, Instr.sureAddr, asAddr, Sem.run_bind, ba h1, Result.andThen_ok, Instr.sliceBounds, Sem.run_pure, bk h2, h3, Nat.zero_mul, db, Nat.add_zero, ite_self, Nat.sub_zero]
theorem uR {Q : Exit -> Act -> World -> Prop} {F : ab} {fn : Func} {r : Tmp} {tr b : Nat} [Agg prog tr m] [hk : Look P b l te R] {X : Type} {φ : X -> Prop} {val : X -> Value} {Qo : X -> ab} (hr : fn.results = #[.cell r tr]) (hv : Env.get E r = some (.pointer (some (ad b 0)))) (hl : l.length = m) (x : X) (hx : φ x) (hvx : .agg l.toArray = val x) (hp : Ent P (aa (Qo x) (F))) :
  K σ n (bodyPost prog fn (bd σ φ val Qo F)) .ret E P := fun a w ha hs => by
 have hlv : (loadVar tr (ad b 0)).run prog w = .ok (.agg l.toArray) w := by
  obtain ⟨dd, i, h1, h2, h3, h4⟩ := Agg.spec (prog := prog) tr m
  have hc := run_loadCells_list (P := prog) (w := w) (ad b 0) l (fun j u hj => by rw [db, Nat.zero_add]; exact aC (P := P) hj σ w hs)
  simp only [loadVar, Sem.run_bind, gr h1, h2, if_true, bk h3, h4, Result.andThen_ok]
  rw [<- hl, hc]
  rfl
 have hg : a.tmps.getD r undef = .pointer (some (ad b 0)) := by rw [Array.getD_eq_getD_getElem?, ha.slot r _ hv]; rfl
 refine ⟨ha.defers, .agg l.toArray, ?_, x, hx, by rw [hvx], hs.ent hp⟩
 simp [results, hr, ha.slot r _ hv, asAddr, hlv]
end
section
variable {b tr m : Nat} {l : List Value} {te : TypeId} {R F : ab} {fn : Func} {r t : Tmp} {v : Value} {X : Type} {φ : X -> Prop} {val : X -> Value} {Qo : X -> ab}
variable {prog : Program} {σ : World} {n : Nat} {E : Env} {P : ab}
theorem gq {w : World} [Agg prog tr m] [hk : Look P b l te R] (hl : l.length = m) (hs : Sat σ w P) : (loadVar tr (ad b 0)).run prog w = .ok (.agg l.toArray) w := by
 obtain ⟨dd, i, h1, h2, h3, h4⟩ := Agg.spec (prog := prog) tr m
 have hc := run_loadCells_list (P := prog) (w := w) (ad b 0) l (fun j u hj => by rw [db, Nat.zero_add]; exact aC (P := P) hj σ w hs)
 simp only [loadVar, Sem.run_bind, gr h1, h2, if_true, bk h3, h4, Result.andThen_ok]
 rw [<- hl, hc]
 rfl
theorem cw [Agg prog tr m] [hk : Look P b l te R] (hr : fn.results = #[.cell r tr, .tmp t]) (hv : Env.get E r = some (.pointer (some (ad b 0)))) (hv2 : Env.get E t = some v) (hl : l.length = m) (x : X) (hx : φ x) (hvx : .tuple #[.agg l.toArray, v] = val x) (hp : Ent P (aa (Qo x) (F))) :
  K σ n (bodyPost prog fn (bd σ φ val Qo F)) .ret E P := fun a w ha hs => by
 have hlv := gq (prog := prog) (tr := tr) (b := b) (R := R) (te := te) hl hs
 have hg : a.tmps.getD r undef = .pointer (some (ad b 0)) := by rw [Array.getD_eq_getD_getElem?, ha.slot r _ hv]; rfl
 refine ⟨ha.defers, .tuple #[.agg l.toArray, v], ?_, x, hx, by rw [hvx], hs.ent hp⟩
 simp [results, hr, ha.slot r _ hv, ha.slot t _ hv2, asAddr, hlv]
theorem fK {u : Tmp} {v' : Value} [Agg prog tr m] [hk : Look P b l te R] (hr : fn.results = #[.cell r tr, .tmp t, .tmp u]) (hv : Env.get E r = some (.pointer (some (ad b 0)))) (hv2 : Env.get E t = some v) (hv3 : Env.get E u = some v') (hl : l.length = m) (x : X) (hx : φ x) (hvx : .tuple #[.agg l.toArray, v, v'] = val x) (hp : Ent P (aa (Qo x) (F))) :
  K σ n (bodyPost prog fn (bd σ φ val Qo F)) .ret E P := fun a w ha hs => by
 have hlv := gq (prog := prog) (tr := tr) (b := b) (R := R) (te := te) hl hs
 have hg : a.tmps.getD r undef = .pointer (some (ad b 0)) := by rw [Array.getD_eq_getD_getElem?, ha.slot r _ hv]; rfl
 refine ⟨ha.defers, .tuple #[.agg l.toArray, v, v'], ?_, x, hx, by rw [hvx], hs.ent hp⟩
 simp [results, hr, ha.slot r _ hv, ha.slot t _ hv2, ha.slot u _ hv3, asAddr, hlv]
end
section
open Go.ChangeShapes Go.WideShapes Go.Deep
section
variable {H : Type} {enc : TypeId × Value -> H} {P : Program} {w : World} {base : Nat} {spare : Nat -> Bool} {held : Bool}
end
end
section
variable {prog : Program} {σ : World} {n : Nat} {E : Env} {P : ab}
theorem nY {f g : Nat -> Option (Nat × Nat)} : ∀ (ps : List (Nat × Value)) (l : Array Value), (∀ p ∈ ps, f p.1 = g p.1) -> Instr.fill f l ps = Instr.fill g l ps
 | [], _, _ => rfl
 | (i, v) :: ps, l, h => by
  rw [Instr.fill, Instr.fill, show f i = g i from h (i, v) (by simp)]
  have ih := fun l => nY ps l (fun p hp => h p (by simp [hp]))
  split
  ·rfl
  ·split
   ·rfl
   ·exact ih _
theorem bQ {t k e m : Nat} {d : Option Tmp} {ty : TypeId} {pos : String} {aft : Array Edge} {g : Option (Nat × Bool)} {zs l : List Value} {pl : List (Nat × Nat)} {parts : Array (Nat × Operand)} {ps : List (Nat × Value)} [Arr prog t k e m] [Zer prog t zs] (he : evp E parts.toList = some ps) [hf : Fil pl zs ps l] (hpl : ps.all (fun p => pl[p.1]? == some (p.1 * m, m)) = true) :
  OpV prog σ n E P ⟨d, .build t parts, ty, pos, aft, g⟩ (.agg l.toArray) := fun a w ha _ => by
 obtain ⟨i, z, h1, h2, h3⟩ := Zer.spec (prog := prog) t zs
 obtain ⟨hu, j, hj, hs⟩ := Arr.spec (prog := prog) t k e m
 have hps : (parts.map fun x => (x.1, a.eval x.2)) = ps.toArray := by rw [<- ha.evp he]; exact Array.toList_inj.1 (by rw [Array.toList_map])
 have hz : z.cells = zs.toArray := by rw [<- h3]
 have hfl : Instr.fill (fun i => some (i * j.size, j.size)) zs.toArray ps = some l.toArray := by
  rw [<- hf.eq, hs]
  refine nY ps _ fun p hp => ?_
  have := List.all_eq_true.1 hpl p hp
  exact (eq_of_beq this).symm
 simp only [execOp, Instr.build, zeroValue, Sem.run_bind, cP h1, Result.andThen_ok, h2, Sem.run_pure, ba hu, bk hj, hps, hz, hfl]
end
section
variable {d : Option Tmp} {ty : TypeId} {pos : String} {aft : Array Edge} {g : Option (Nat × Bool)} {x : Operand} {e k c fuel j t : Nat} {Q : Exit -> Act -> World -> Prop} {ops : Array Oper} {S0 S : ab} {B : List Nat} {listed : Array Bool} {want b : Bool} {op : Op} {rest : List Oper}
variable {prog : Program} {σ : World} {n : Nat} {E : Env} {P : ab}
theorem rO {src dst b o : Nat} {te : TypeId} {R : ab} {cells : List Value} (l : List Int) [Slc prog src e 1] [IntT prog e .u8] [Str prog dst] (hx : ev E x = some (.slice (some (ad b o)) k c)) [hk : Look P b cells te R] (hc : (cells.drop o).take k = l.map (.int .u8)) (hl : k = l.length) (h : ∀ v ∈ l, 0 <= v /\ v < 256) :
  OpV prog σ n E P ⟨d, .convert src dst x, ty, pos, aft, g⟩ (.string (aY l)) := by
 subst hl
 refine nm hx (.inr ⟨b, o, c, by rw [aZ], fun j u hj => aC (l := cells) ?_⟩)
 rw [jp l h, <- hc, List.getElem?_take] at hj
 split at hj
 ·rw [List.getElem?_drop] at hj; exact hj
 ·cases hj
theorem AJ (i : Nat) {d : Nat} {v : Value} {R0 : ab} [NP Q] [h0 : Take P S0 R0] (hi : ops[i]? = some ⟨some d, op, ty, pos, aft, some (j, want)⟩) (hs : Region.noSelect ops = true) (hf : Region.free .any ops listed i = true)
  (hr : (Region.ready .any ops listed).contains i = true) (hiB : B.contains i = false) (hc : dN B listed = false \/ ∃ R, P = (aa (S) (R))) (hj : (ops[j]?).bind (·.dst) = some t) (hb : Env.get E t = some (.bool want)) (h : OpV prog σ n E S0 ⟨some d, op, ty, pos, aft, none⟩ v) (hd : Nat.blt d n = true) (k : Rg prog σ n ops Q S0 S B fuel (listed.setIfInBounds i true) ((d, v) :: E) P) :
  Rg prog σ n ops Q S0 S B (fuel + 1) listed E P := fun a w ha hw => by
 refine i0 (v := v) false hi (Region.noSelect_spec hs) (fun c a w h => absurd h (NP.no c _ w)) (by simpa using hiB) (fun h => by cases h) fuel listed a w (Region.free_spec hi hf) (by simpa using hr) (.inl ⟨by simp only [Region.wanted, iZ ha hj hb]; simp, fun w' hw' => h a w' ha hw'.1⟩) (fun h => by cases h)
  (by have := hw; rw [h0.eq] at this; exact this.left) (fun hcl => ?_) ?_
 ·rcases hc with hc | ⟨R, hR⟩
  ·rw [hc] at hcl; cases hcl
  ·rw [hR] at hw; exact hw.left
 ·exact k _ w (ha.put (Nat.le_of_ble_eq_true hd) v) hw
theorem AL (i : Nat) {X : Type} {φ : X -> Prop} {E' : X -> Env} {P' : X -> ab} (hi : ops[i]? = some ⟨d, op, ty, pos, aft, some (j, want)⟩) (hj : (ops[j]?).bind (·.dst) = some t) (hb : Env.get E t = some (.bool want)) (hr : Region.ready .any ops listed = [i]) (h : OpX prog σ n E P ⟨d, op, ty, pos, aft, none⟩ φ E' P')
  (hS0 : ∀ x, φ x -> ∃ R', P' x = (aa (S0) (R'))) (hS : dN B (listed.setIfInBounds i true) = false \/ ∀ x, φ x -> ∃ R', P' x = (aa (S) (R'))) (k : ∀ x, φ x -> Rg prog σ n ops Q S0 S B fuel (listed.setIfInBounds i true) (E' x) (P' x)) : Rg prog σ n ops Q S0 S B (fuel + 1) listed E P := fun a w ha hw => by
 refine ⟨fun h0 => absurd (hr ▸ h0) (by simp), fun j' hj' => ?_⟩
 rw [hr] at hj'
 obtain rfl : j' = i := by simpa using hj'
 unfold wpOp
 rw [hi]
 simp only [Region.wanted, iZ ha hj hb, beq_self_eq_true, if_true]
 have hh := h a w ha hw (fun a' w' => (Sat σ w' S0 /\ (dN B (listed.setIfInBounds j' true) = true -> Sat σ w' S)) /\ kF prog ops Q (fun w => Sat σ w S0) (fun w => Sat σ w S) B fuel (listed.setIfInBounds j' true) a' w') Q (fun x a' w' hx ha' hw' => ⟨⟨by obtain ⟨R', hR⟩ := hS0 x hx; rw [hR] at hw'; exact hw'.left, fun hcl => by
  rcases hS with hS | hS
  ·rw [hS] at hcl; cases hcl
  ·obtain ⟨R', hR⟩ := hS x hx
   rw [hR] at hw'
   exact hw'.left⟩, k x hx a' w' ha' hw'⟩)
 exact .inl hh
theorem eE {m len : Nat} {A : Addr} [Arr prog t k e m] (hx : ev E x = some (.slice (some A) len c)) (h : k <= len) : OpV prog σ n E P ⟨d, .sliceToArrayPointer t x, ty, pos, aft, g⟩ (.pointer (some A)) := fun _ w ha _ => by
 obtain ⟨h1, _⟩ := Arr.spec (prog := prog) t k e m
 have : ¬ len < k := by omega
 simp [execOp, ha.ev hx, Instr.arrayAt, ba h1, this]
theorem yu {Qa : Act -> Prop} {d : Nat} (hj : (ops[j]?).bind (·.dst) = some t) (hb : Env.get E t = some (.bool b)) (hne : (b == want) = false) (hd : Nat.blt d n = true)
  (k : QL prog σ n ops rest Qa ((d, undef) :: E) P) : QL prog σ n ops (⟨some d, op, ty, pos, aft, some (j, want)⟩ :: rest) Qa E P := fun a ha => by
 unfold wpQuiet
 have : Region.wanted ⟨some d, op, ty, pos, aft, some (j, want)⟩ (yielded ops a.tmps) = false := by
  simp only [Region.wanted, iZ ha hj hb]
  simpa using hne
 rw [this]
 simp only [Bool.false_eq_true, if_false]
 exact k _ (ha.put (Nat.le_of_ble_eq_true hd) undef)
theorem mb {d : Nat} (hj : (ops[j]?).bind (·.dst) = some t) (hb : Env.get E t = some (.bool b)) (hne : (b == want) = false) (hd : Nat.blt d n = true)
  (k : L prog σ n ops rest Q ((d, undef) :: E) P) : L prog σ n ops (⟨some d, op, ty, pos, aft, some (j, want)⟩ :: rest) Q E P := fun a w ha hs => by
 unfold wpList
 have : Region.wanted ⟨some d, op, ty, pos, aft, some (j, want)⟩ (yielded ops a.tmps) = false := by
  simp only [Region.wanted, iZ ha hj hb]
  simpa using hne
 rw [this]
 simp only [Bool.false_eq_true, if_false]
 exact k _ w (ha.put (Nat.le_of_ble_eq_true hd) undef) hs
theorem cA {d : Nat} (hj : (ops[j]?).bind (·.dst) = some t) (hb : Env.get E t = some undef) (hd : Nat.blt d n = true)
  (k : L prog σ n ops rest Q ((d, undef) :: E) P) : L prog σ n ops (⟨some d, op, ty, pos, aft, some (j, want)⟩ :: rest) Q E P := fun a w ha hs => by
 unfold wpList
 have : Region.wanted ⟨some d, op, ty, pos, aft, some (j, want)⟩ (yielded ops a.tmps) = false := by
  simp only [Region.wanted, yielded, hj, Option.bind_some, ha.slot t _ hb, undef]
  rfl
 rw [this]
 simp only [Bool.false_eq_true, if_false]
 exact k _ w (ha.put (Nat.le_of_ble_eq_true hd) undef) hs
end
section
variable {prog : Program} {t : TypeId} {ks : List CK} {l k k' : List Value} {w : World} {f : List Value -> Option Value} {es : List MapEntry} {c j : Nat} {e0 : MapEntry}
section
variable {P : Program} (w : World)
theorem lC (D : Nat) (xs : Array Value) : ∀ (fs : List Field) (off : Nat) (ks : List CK), gv P (aP P D) fs off = some ks -> Shape ks ((xs.toList.drop off).take ks.length) ->
  ∀ f ∈ fs, ∃ k a, aP P D f.type = some k /\ (part f.type xs f.offset).run P w = .ok a w /\ a.formed P f.type = true /\ Shape k a.cells.toList
 | [], _, _, _, _ => fun f hf => by cases hf
 | f :: fs, off, ks, h, hx => by
  simp only [gv] at h
  split at h
  ·rename_i k hk
   split at h
   ·rename_i hc
    cases hr : gv P (aP P D) fs (off + k.length) with
    | none => simp [hr] at h
    | some ks' =>
     simp only [hr, Option.map_some, Option.some.injEq] at h
     subst h
     rw [List.length_append, jm] at hx
     have h1 := hx.take
     have lx := hx.len
     simp only [List.length_append, List.length_take, List.length_drop] at lx
     have ex : ((xs.toList.drop off).take k.length).length = k.length := by rw [List.length_take, List.length_drop]; omega
     rw [List.take_left' ex, List.drop_left' ex] at h1
     intro g hg
     rcases List.mem_cons.1 hg with rfl | hg
     ·obtain ⟨a, pa, fa, ca⟩ := g9 w hk h1.1
      exact ⟨k, a, hk, by rw [hc.1]; exact pa, fa, by rw [ca]; exact h1.1⟩
     ·exact lC D xs fs (off + k.length) ks' hr h1.2 g hg
   ·cases h
  ·cases h
theorem mR (D : Nat) {e : TypeId} {k : List CK} (hk : aP P D e = some k) (xs : Array Value) : ∀ (n i : Nat), Shape (List.replicate n k).flatten ((xs.toList.drop (i * k.length)).take (n * k.length)) ->
  ∀ j ∈ List.range' i n, ∃ a, (part e xs (j * k.length)).run P w = .ok a w /\ a.formed P e = true /\ Shape k a.cells.toList
 | 0, i, _ => fun j hj => by simp at hj
 | n + 1, i, hx => by
  have hm : (n + 1) * k.length = k.length + n * k.length := by rw [Nat.add_mul, Nat.one_mul, Nat.add_comm]
  have hi : i * k.length + k.length = (i + 1) * k.length := by rw [Nat.add_mul, Nat.one_mul]
  rw [hm, jm, hi] at hx
  rw [List.replicate_succ, List.flatten_cons] at hx
  have h1 := hx.take
  have lx := hx.len
  simp only [List.length_append, List.length_take, List.length_drop, List.length_flatten, List.map_replicate, List.sum_replicate_nat] at lx
  have ex : ((xs.toList.drop (i * k.length)).take k.length).length = k.length := by rw [List.length_take, List.length_drop]; omega
  rw [List.take_left' ex, List.drop_left' ex] at h1
  intro j hj
  rw [List.range'_succ] at hj
  rcases List.mem_cons.1 hj with rfl | hj
  ·obtain ⟨a, pa, fa, ca⟩ := g9 w hk h1.1
   exact ⟨a, pa, fa, by rw [ca]; exact h1.1⟩
  ·exact mR D hk xs n (i + 1) h1.2 j hj
end
def yY (P : Program) (em : Bool) (dd : Nat) (e : TypeId) (ks : List CK) : Prop :=
 ∀ (w : World) (a : Value), a.formed P e = true -> Shape ks a.cells.toList -> (Instr.checkKey em dd e a).run P w = .ok () w
theorem tz {P : Program} (em : Bool) (d : Nat) : ∀ (D : Nat) (t : TypeId) (ks : List CK), aP P D t = some ks -> P.keyTypeAt D t = true -> yY P em (d + D) t ks
 | 0, _, _, h, _ => by simp [aP] at h
 | D + 1, t, ks, h, hk => by
  intro w a fa sa
  rw [show d + (D + 1) = (d + D) + 1 from rfl]
  simp only [aP] at h
  unfold Program.keyTypeAt at hk
  split at h
  ·rename_i k hu
   cases a <;> simp [Value.formed, hu] at fa <;> simp [Instr.checkKey, run_underlying hu]
  ·rename_i hu
   cases a <;> simp [Value.formed, hu] at fa <;> simp [Instr.checkKey, run_underlying hu]
  ·rename_i hu
   cases a <;> simp [Value.formed, hu] at fa <;> simp [Instr.checkKey, run_underlying hu]
  ·rename_i fs hu
   simp only [hu, Bool.and_eq_true, Bool.not_eq_true'] at hk
   split at h
   ·rename_i ks' hks
    split at h
    ·rename_i hlen
     simp only [Option.some.injEq] at h
     subst h
     cases a <;> simp only [Value.formed, hu, Bool.false_eq_true] at fa
     rename_i xs
     simp only [Value.cells] at sa
     have lx := sa.len
     have each := lC w D xs fs.toList 0 ks' hks (by rw [List.drop_zero, List.take_of_length_le (by omega)]; exact sa)
     have deep : ∀ f ∈ fs.toList, f.name ≠ "_" /\ ∀ k, aP P D f.type = some k -> yY P em (d + D) f.type k := fun f hf => by
      have := Array.all_eq_true_iff_forall_mem.1 hk.1.1 f (Array.mem_toList_iff.1 hf)
      simp only [Bool.and_eq_true, bne_iff_ne, ne_eq] at this
      exact ⟨this.1, fun k hk' => tz em d D f.type k hk' this.2⟩
     rw [Instr.checkKey]
     simp only [Sem.run_bind, run_underlying hu, Result.andThen_ok]
     rw [<- Array.forIn_toList]
     clear hks
     generalize fs.toList = L at each deep
     induction L with
     | nil => simp
     | cons f L ih =>
      obtain ⟨k, a, hka, p1, f1, c1⟩ := each f (by simp)
      obtain ⟨hn, hp⟩ := deep f (by simp)
      have p2 := hp k hka w a f1 c1
      simp only [List.forIn_cons, Sem.run_bind, hn, ne_eq, not_false_eq_true, if_true, Result.andThen_ok, p1, p2, Sem.run_pure]
      exact ih (fun y hy => each y (by simp [hy])) (fun y hy => deep y (by simp [hy]))
    ·cases h
   ·cases h
  ·rename_i n e hu
   simp only [hu] at hk
   split at h
   ·rename_i k hk2
    split at h
    ·rename_i hc
     simp only [Option.some.injEq] at h
     subst h
     cases a <;> simp only [Value.formed, hu, Bool.false_eq_true] at fa
     rename_i xs
     simp only [Value.cells] at sa
     have lx := sa.len
     simp only [List.length_flatten, List.map_replicate, List.sum_replicate_nat] at lx
     have hie : ∃ i, P.info? e = some i := by
      cases D with
      | zero => simp [aP] at hk2
      | succ D' =>
       simp only [aP] at hk2
       cases hue : P.underlying e with
       | none => simp [hue] at hk2
       | some _ => exact info_of_underlying hue
     obtain ⟨i, hi⟩ := hie
     have each := mR w D hk2 xs n 0 (by rw [Nat.zero_mul, List.drop_zero, List.take_of_length_le (by omega)]; exact sa)
     have IH := tz em d D e k hk2 hk
     rw [Instr.checkKey]
     simp only [Sem.run_bind, run_underlying hu, Result.andThen_ok]
     simp only [Std.Legacy.Range.forIn_eq_forIn_range', Std.Legacy.Range.size, Nat.sub_zero, Nat.add_one_sub_one, Nat.div_one]
     generalize List.range' 0 n = is at each
     induction is with
     | nil => simp
     | cons j is ih =>
      obtain ⟨a, p1, f1, c1⟩ := each j (by simp)
      have p2 := IH w a f1 c1
      rw [<- hc.1] at p1
      simp only [List.forIn_cons, Sem.run_bind, run_sizeOf w hi, Result.andThen_ok, p1, p2, Sem.run_pure]
      exact ih (fun y hy => each y (by simp [hy]))
    ·cases h
   ·cases h
  ·cases h
theorem EqT.formed [h : EqT prog t ks] (hl : Shape ks l) : (Value.agg l.toArray).formed prog t = true := by
 obtain ⟨h1, h2, _, h4⟩ := h.b
 obtain ⟨d, hd, h5⟩ := cM h4
 have hll := hl.len
 simp only [aP, hd] at h1
 unfold gS at h5
 split at h5
 ·rename_i fs
  simp only at h1
  split at h1
  ·split at h1
   ·rename_i hc
    simp only [Option.some.injEq] at h1
    subst h1
    simp [Value.formed, hd, hc, hll]
   ·cases h1
  ·cases h1
 ·rename_i m e
  simp only at h1
  split at h1
  ·split at h1
   ·rename_i hc
    simp only [Option.some.injEq] at h1
    subst h1
    simp only [List.length_flatten, List.map_replicate, List.sum_replicate_nat] at hll
    simp [Value.formed, hd, hc.2, hll]
   ·cases h1
  ·cases h1
 ·cases h5
theorem iY [h : EqT prog t ks] (hl : Shape ks l) (em : Bool) (w : World) : (Instr.checkKey em 10000 t (.agg l.toArray)).run prog w = .ok () w := by
 obtain ⟨h1, h2, _, _⟩ := h.b
 exact tz (P := prog) em 9980 20 t ks h1 h2 w _ (EqT.formed (prog := prog) hl) (by simpa [Value.cells] using hl)
structure MapOk (ks : List CK) (es : List MapEntry) (f : List Value -> Option Value) : Prop where
 sh : ∀ e ∈ es, ∃ l, e.key = .agg l.toArray /\ Shape ks l
 nd : (es.map (·.key)).Nodup
 iff : ∀ k v, f k = some v ↔ ∃ e ∈ es, e.key = .agg k.toArray /\ e.val = v
def eK (r : Nat) (ks : List CK) (f : List Value -> Option Value) : ab := ex fun x : Array MapEntry × Nat => (aa (lift (MapOk ks x.1.toList f)) (blk r (.map x.1 x.2)))
theorem lY (h : Value.agg k.toArray = .agg l.toArray) : k = l := by
 simp only [Value.agg.injEq] at h
 exact List.toArray_inj h |> id
variable {prog : Program} {σ : World} {n : Nat} {E : Env} {Pr R : ab}
theorem jT {t : TypeId} {ks : List CK} [EqT prog t ks] {k : List Value} (hk : Shape ks k) (w : World) : ∀ (es : List MapEntry) (i : Nat), (∀ e ∈ es, ∃ l, e.key = .agg l.toArray /\ Shape ks l) ->
  ((Instr.findAsking t (.agg k.toArray) es i).run prog w = .ok none w /\ ∀ e ∈ es, e.key ≠ .agg k.toArray) \/
  ∃ j e, (Instr.findAsking t (.agg k.toArray) es i).run prog w = .ok (some (i + j, e.val)) w /\ es[j]? = some e /\ e.key = .agg k.toArray
 | [], i, _ => .inl ⟨by simp [Instr.findAsking], by simp⟩
 | e :: es, i, hall => by
  obtain ⟨l, hl, sl⟩ := hall e (by simp)
  obtain ⟨c, hc, hiff⟩ := EqT.run (prog := prog) (t := t) hk sl w
  have hc' : (Op.equal t (.agg k.toArray) e.key).run prog w = .ok c w := by rw [hl]; exact hc
  cases c
  ·have hne : e.key ≠ .agg k.toArray := fun h => by
    rw [hl] at h
    have := hiff.2 (lY h).symm
    cases this
   rcases jT (t := t) hk w es (i + 1) (fun y hy => hall y (by simp [hy])) with ⟨h1, h2⟩ | ⟨j, e', h1, h2, h3⟩
   ·exact .inl ⟨by simp [Instr.findAsking, hc', h1], fun y hy => by
     rcases List.mem_cons.1 hy with rfl | hy
     ·exact hne
     ·exact h2 y hy⟩
   ·exact .inr ⟨j + 1, e', by simp [Instr.findAsking, hc', h1, Nat.add_assoc, Nat.add_comm 1 j], by simpa using h2, h3⟩
  ·exact .inr ⟨0, e, by simp [Instr.findAsking, hc'], rfl, by rw [hl, hiff.1 rfl]⟩
theorem gJ {t : TypeId} {ks : List CK} [h : EqT prog t ks] {k : List Value} (hk : Shape ks k) (w : World) {es : List MapEntry} {f : List Value -> Option Value} (ho : MapOk ks es f) :
  ((Instr.findKey t (.agg k.toArray) es).run prog w = .ok none w /\ f k = none /\ ∀ e ∈ es, e.key ≠ .agg k.toArray) \/
  ∃ j e, (Instr.findKey t (.agg k.toArray) es).run prog w = .ok (some (j, e.val)) w /\ es[j]? = some e /\ e.key = .agg k.toArray /\ f k = some e.val := by
 obtain ⟨_, _, _, h4⟩ := h.b
 obtain ⟨d, hd, h5⟩ := cM h4
 rw [run_findKey_eq w (by rw [hd]; unfold gS at h5; split at h5 <;> first | rfl | cases h5)]
 rcases jT (prog := prog) (t := t) hk w es 0 ho.sh with ⟨h1, h2⟩ | ⟨j, e, h1, h2, h3⟩
 ·refine .inl ⟨h1, ?_, h2⟩
  cases hf : f k with
  | none => rfl
  | some v =>
   obtain ⟨e, he, h3, _⟩ := (ho.iff k v).1 hf
   exact absurd h3 (h2 e he)
 ·exact .inr ⟨j, e, by simpa using h1, h2, h3, (ho.iff k e.val).2 ⟨e, List.mem_of_getElem? h2, h3, rfl⟩⟩
def HQ (prog : Program) (t k : TypeId) : Bool := i2 prog t (fun | .map k' e => Nat.beq k' k && (match prog.info? e with | some i => (match i.zero with | some (.pointer none) => true | _ => false) | none => false) | _ => false)
class MapP (prog : Program) (t : TypeId) (k : outParam TypeId) : Prop where
 b : HQ prog t k = true
theorem MapP.spec {k : TypeId} (h : MapP prog t k) : ∃ e, prog.underlying t = some (.map k e) /\ ∀ w, (zeroValue e).run prog w = .ok (.pointer none) w := by
 obtain ⟨d, hd, h1⟩ := cM h.b
 split at h1
 ·rename_i k' e
  simp only [Bool.and_eq_true] at h1
  obtain ⟨h2, h3⟩ := h1
  have := Nat.eq_of_beq_eq_true h2
  subst this
  refine ⟨e, hd, fun w => ?_⟩
  split at h3
  ·rename_i i hi
   split at h3
   ·rename_i hz
    simp [zeroValue, cP hi, hz]
   ·cases h3
  ·cases h3
 ·cases h1
variable {d : Option Nat} {ty : TypeId} {pos : String} {aft : Array Edge} {g : Option (Nat × Bool)} {x y z : Operand} {t kt : TypeId} {ks : List CK} {r : Nat} {f : List Value -> Option Value} {k : List Value} {v : Value}
theorem nG (h : Sat σ w (aa (eK r ks f) (R))) : ∃ es c, w.heap[r]? = some (.map es c) /\ MapOk ks es.toList f /\ Sat σ w (aa (blk r (.map es c)) (R)) := by
 obtain ⟨⟨es, c⟩, hx⟩ := sat_ex.1 h
 simp only [ak] at hx
 obtain ⟨h1, h2⟩ := sat_lift.1 hx
 exact ⟨es, c, h2.blk, h1, h2⟩
theorem tg [hm : MapP prog t kt] [EqT prog kt ks] (hk : Shape ks k) (hs : Sat σ w (aa (eK r ks f) (R))) (c : Bool) :
  (Instr.lookup t (.map (some r)) (.agg k.toArray) c).run prog w = .ok (if c then .tuple #[(f k).getD (.pointer none), .bool (f k).isSome] else (f k).getD (.pointer none)) w := by
 obtain ⟨e, h1, h2⟩ := hm.spec
 obtain ⟨es, clk, hb, ho, _⟩ := nG hs
 have hck := iY (prog := prog) (t := kt) hk es.isEmpty w
 rcases gJ (prog := prog) (t := kt) hk w ho with ⟨h3, h4, _⟩ | ⟨j, e', h3, _, _, h4⟩
 ·simp [Instr.lookup, run_underlying h1, run_getObj_map w r es clk hb, hck, h3, h4, h2 w]
 ·simp [Instr.lookup, run_underlying h1, run_getObj_map w r es clk hb, hck, h3, h4]
theorem i8 [MapP prog t kt] [EqT prog kt ks] (hx : ev E x = some (.map (some r))) (hy : ev E y = some (.agg k.toArray)) (hk : Shape ks k) [hT : Take Pr (eK r ks f) R] :
  OpV prog σ n E Pr ⟨d, .lookup t x y false, ty, pos, aft, g⟩ ((f k).getD (.pointer none)) := fun _ w ha hw => by
 rw [hT.eq] at hw
 have := tg (prog := prog) (t := t) hk hw false
 simp only [execOp, ha.ev hx, ha.ev hy, Sem.run_bind, this, Result.andThen_ok, Sem.run_pure]
 rfl
theorem rF {d : Nat} (ks : List CK) (hd : Nat.blt d n = true) :
  OpX prog σ n E Pr ⟨some d, .makeMap t none, ty, pos, aft, g⟩ (fun _ : Nat => True) (fun r => (d, .map (some r)) :: E) (fun r => (aa (eK r ks (fun _ => none)) (Pr))) := by
 refine bI rfl hd fun a w ha hs => ?_
 refine ⟨w.heap.size, w.alloc (.map #[] 0), trivial, ?_, ?_⟩
 ·have h1 : (Instr.makeMap t none).run prog w = .ok (.map (some w.heap.size)) (w.alloc (.map #[] 0)) := rfl
  simp only [execOp, Option.map_none, Sem.run_bind, h1, Result.andThen_ok, Sem.run_pure]
 ·refine (hs.alloc (.map #[] 0)).imp fun h hh => ?_
  obtain ⟨h1, h2, ha, e, hp, hq⟩ := hh
  refine ⟨h1, h2, ha, e, ⟨(#[], 0), fun _ => none, h1, fun b => .inl rfl, by funext b; simp [bW], ⟨⟨fun e he => by simp at he, by simp, fun k v => by simp⟩, rfl⟩, hp⟩, hq⟩
open Classical in
noncomputable def ek (f : List Value -> Option Value) (k : List Value) (v : Value) : List Value -> Option Value := fun k' => if k' = k then some v else f k'
open Classical in
noncomputable def je (f : List Value -> Option Value) (k : List Value) : List Value -> Option Value := fun k' => if k' = k then none else f k'
theorem my (f : List Value -> Option Value) (k : List Value) (v : Value) : ek f k v k = some v := by unfold ek; rw [if_pos rfl]
theorem jd {v : Value} (h : k' ≠ k) : ek f k v k' = f k' := by unfold ek; rw [if_neg h]
theorem mz (f : List Value -> Option Value) (k : List Value) : je f k k = none := by unfold je; rw [if_pos rfl]
theorem kR (h : k' ≠ k) : je f k k' = f k' := by unfold je; rw [if_neg h]
theorem dZ {es : Array MapEntry} (o : Obj) (hb : w.heap[r]? = some (.map es c)) : (setObj r o).run prog w = .ok () { w with heap := w.heap.setIfInBounds r o } := by simp [setObj, Sem.run, hb]
theorem ng {es es' : Array MapEntry} {c' : Nat} {f' : List Value -> Option Value} (h : Sat σ w (aa (blk r (.map es c)) (R))) (ho : MapOk ks es'.toList f') : Sat σ { w with heap := w.heap.setIfInBounds r (.map es' c') } (aa (eK r ks f') (R)) := by
 have hb := h.blk
 have hlt : r < w.heap.size := by
  rcases Nat.lt_or_ge r w.heap.size with hl | hl
  ·exact hl
  ·rw [Array.getElem?_eq_none hl] at hb; cases hb
 have h1 := h.update (w' := { w with heap := w.heap.setIfInBounds r (.map es' c') }) (o' := .map es' c') rfl rfl rfl (by simp [hlt]) (fun k hk => by
  show (w.heap.setIfInBounds r _)[k]? = _
  rw [Array.getElem?_setIfInBounds, if_neg (fun e => hk e.symm)])
 refine h1.imp fun h hh => ?_
 obtain ⟨h1, h2, ha, e, hp, hq⟩ := hh
 exact ⟨h1, h2, ha, e, ⟨(es', c'), fun _ => none, h1, fun b => .inl rfl, by funext b; simp [bW], ⟨ho, rfl⟩, hp⟩, hq⟩
theorem mO (m : Nat) : ∀ {ks : List CK} {l : List Value}, Shape ks l -> ((l.zip l).all fun (x, y) => Instr.sameBits m x y) = true
 | [], [], _ => rfl
 | c :: ks, v :: l, h => by
  have h1 := mO m h.2
  simp only [List.zip_cons_cons, List.all_cons, Bool.and_eq_true]
  refine ⟨?_, h1⟩
  have h2 := h.1
  cases c with
  | int k => obtain ⟨n, rfl⟩ := h2; cases m <;> simp [Instr.sameBits]
  | bool => obtain ⟨n, rfl⟩ := h2; cases m <;> simp [Instr.sameBits]
  | str =>
   obtain ⟨n, rfl⟩ := h2
   have : (n == n) = true := (MapKept.bytes_beq n n).2 rfl
   cases m <;> simp [Instr.sameBits, this]
 | [], _ :: _, h => h.elim
 | _ :: _, [], h => h.elim
theorem lN (hk : Shape ks k) (w : World) : (Instr.keyThatStays (.agg k.toArray) (.agg k.toArray)).run prog w = .ok (.agg k.toArray) w := by
 have h : Instr.sameBits 10000 (.agg k.toArray) (.agg k.toArray) = true := by
  show Instr.sameBits (9999 + 1) _ _ = true
  rw [Instr.sameBits]
  have := mO 9999 hk
  simpa using this
 simp [Instr.keyThatStays, h]
theorem MapOk.put_new (h : MapOk ks es f) (hk : Shape ks k) (hn : ∀ e ∈ es, e.key ≠ .agg k.toArray) (v : Value) : MapOk ks (es ++ [{ key := .agg k.toArray, val := v, born := c }]) (ek f k v) := by
 refine ⟨fun e he => ?_, ?_, fun k' v' => ?_⟩
 ·rcases List.mem_append.1 he with he | he
  ·exact h.sh e he
  ·rw [List.mem_singleton.1 he]; exact ⟨k, rfl, hk⟩
 ·rw [List.map_append, List.nodup_append]
  refine ⟨h.nd, by simp, fun a ha b hb => ?_⟩
  obtain ⟨e, he, rfl⟩ := List.mem_map.1 ha
  simp only [List.map_cons, List.map_nil, List.mem_singleton] at hb
  rw [hb]
  exact hn e he
 ·by_cases e : k' = k
  ·subst e
   rw [my]
   constructor
   ·intro h2
    simp only [Option.some.injEq] at h2
    exact ⟨_, List.mem_append_right _ (List.mem_singleton.2 rfl), rfl, h2⟩
   ·rintro ⟨e, he, h2, h3⟩
    rcases List.mem_append.1 he with he | he
    ·exact absurd h2 (hn e he)
    ·rw [List.mem_singleton.1 he] at h3; exact congrArg some h3
  ·rw [jd e, h.iff]
   constructor
   ·rintro ⟨e', he, h2⟩
    exact ⟨e', List.mem_append_left _ he, h2⟩
   ·rintro ⟨e', he, h2, h3⟩
    rcases List.mem_append.1 he with he | he
    ·exact ⟨e', he, h2, h3⟩
    ·rw [List.mem_singleton.1 he] at h2
     exact absurd (lY h2).symm e
theorem mw (h : (es.map (·.key)).Nodup) {i : Nat} {a b : MapEntry} (hi : es[i]? = some a) (hj : es[j]? = some b) (e : a.key = b.key) : i = j := by
 have l1 := (List.getElem?_eq_some_iff.1 hi).1
 have l2 := (List.getElem?_eq_some_iff.1 hj).1
 have e1 := (List.getElem?_eq_some_iff.1 hi).2
 have e2 := (List.getElem?_eq_some_iff.1 hj).2
 have hp := List.pairwise_iff_getElem.1 h
 rcases Nat.lt_trichotomy i j with hl | hl | hl
 ·exact absurd (show (es.map (·.key))[i]'(by simpa using l1) = (es.map (·.key))[j]'(by simpa using l2) by rw [List.getElem_map, List.getElem_map, e1, e2]; exact e) (hp i j _ _ hl)
 ·exact hl
 ·exact absurd (show (es.map (·.key))[j]'(by simpa using l2) = (es.map (·.key))[i]'(by simpa using l1) by rw [List.getElem_map, List.getElem_map, e1, e2]; exact e.symm) (hp j i _ _ hl)
theorem MapOk.put_at (h : MapOk ks es f) (hk : Shape ks k) (hj : es[j]? = some e0) (h0 : e0.key = .agg k.toArray) (v : Value) : MapOk ks (es.modify j fun e => { e with key := .agg k.toArray, val := v }) (ek f k v) := by
 have get : ∀ i : Nat, (es.modify j fun e => { e with key := .agg k.toArray, val := v })[i]? = if j = i then (es[i]?).map (fun e => { e with key := .agg k.toArray, val := v }) else es[i]? := fun i => by
  rw [List.getElem?_modify]
  split <;> cases es[i]? <;> rfl
 have hkeys : (es.modify j fun e => { e with key := .agg k.toArray, val := v }).map (·.key) = es.map (·.key) := by
  refine List.ext_getElem? fun i => ?_
  rw [List.getElem?_map, List.getElem?_map, get]
  split
  ·rename_i e; subst e; rw [hj]; exact congrArg some h0.symm
  ·rfl
 refine ⟨fun e he => ?_, by rw [hkeys]; exact h.nd, fun k' v' => ?_⟩
 ·obtain ⟨i, hi⟩ := List.getElem?_of_mem he
  rw [get] at hi
  split at hi
  ·rename_i e; subst e; rw [hj] at hi
   simp only [Option.map_some, Option.some.injEq] at hi
   subst hi
   exact ⟨k, rfl, hk⟩
  ·exact h.sh e (List.mem_of_getElem? hi)
 ·by_cases e : k' = k
  ·subst e
   rw [my]
   constructor
   ·intro h2
    simp only [Option.some.injEq] at h2
    refine ⟨_, List.mem_of_getElem? (i := j) (by rw [get, if_pos rfl, hj]; rfl), rfl, h2⟩
   ·rintro ⟨e, he, h2, h3⟩
    obtain ⟨i, hi⟩ := List.getElem?_of_mem he
    rw [get] at hi
    split at hi
    ·rename_i e'; subst e'; rw [hj] at hi
     simp only [Option.map_some, Option.some.injEq] at hi
     rw [<- hi] at h3
     exact congrArg some h3
    ·rename_i e'
     exact absurd (mw h.nd hj hi (h0.trans h2.symm)) e'
  ·rw [jd e, h.iff]
   constructor
   ·rintro ⟨e', he, h2, h3⟩
    obtain ⟨i, hi⟩ := List.getElem?_of_mem he
    refine ⟨e', List.mem_of_getElem? (i := i) ?_, h2, h3⟩
    rw [get, if_neg, hi]
    rintro rfl
    rw [hj] at hi
    cases hi
    exact e (lY (h0.symm.trans h2)).symm
   ·rintro ⟨e', he, h2, h3⟩
    obtain ⟨i, hi⟩ := List.getElem?_of_mem he
    rw [get] at hi
    split at hi
    ·rename_i e''; subst e''; rw [hj] at hi
     simp only [Option.map_some, Option.some.injEq] at hi
     subst hi
     exact absurd (lY h2).symm e
    ·exact ⟨e', List.mem_of_getElem? hi, h2, h3⟩
theorem MapOk.del_none (h : MapOk ks es f) (hn : ∀ e ∈ es, e.key ≠ .agg k.toArray) : MapOk ks es (je f k) := by
 refine ⟨h.sh, h.nd, fun k' v' => ?_⟩
 by_cases e : k' = k
 ·subst e
  rw [mz]
  constructor
  ·intro h; cases h
  ·rintro ⟨e, he, h2, _⟩; exact absurd h2 (hn e he)
 ·rw [kR e, h.iff]
theorem MapOk.del_at (h : MapOk ks es f) (hj : es[j]? = some e0) (h0 : e0.key = .agg k.toArray) : MapOk ks (es.eraseIdx j) (je f k) := by
 have hsub := List.eraseIdx_sublist es j
 refine ⟨fun e he => h.sh e (hsub.subset he), h.nd.sublist (hsub.map _), fun k' v' => ?_⟩
 by_cases e : k' = k
 ·subst e
  rw [mz]
  constructor
  ·intro h; cases h
  ·rintro ⟨e, he, h2, _⟩
   obtain ⟨i, hi⟩ := List.getElem?_of_mem he
   rw [List.getElem?_eraseIdx] at hi
   split at hi
   ·have := mw h.nd hj hi (h0.trans h2.symm); omega
   ·have := mw h.nd hj hi (h0.trans h2.symm); omega
 ·rw [kR e, h.iff]
  constructor
  ·rintro ⟨e', he, h2, h3⟩
   obtain ⟨i, hi⟩ := List.getElem?_of_mem he
   have hij : i ≠ j := by
    rintro rfl
    rw [hj] at hi
    cases hi
    exact e (lY (h0.symm.trans h2)).symm
   rcases Nat.lt_or_gt_of_ne hij with hl | hl
   ·exact ⟨e', List.mem_of_getElem? (i := i) (by rw [List.getElem?_eraseIdx, if_pos hl]; exact hi), h2, h3⟩
   ·exact ⟨e', List.mem_of_getElem? (i := i - 1) (by rw [List.getElem?_eraseIdx, if_neg (by omega), show i - 1 + 1 = i by omega]; exact hi), h2, h3⟩
  ·rintro ⟨e', he, h2, h3⟩
   exact ⟨e', hsub.subset he, h2, h3⟩
theorem oG [hm : MapP prog t kt] [EqT prog kt ks] (hx : ev E x = some (.map (some r))) (hy : ev E y = some (.agg k.toArray)) (hz : ev E z = some v) (hk : Shape ks k) [hT : Take Pr (eK r ks f) R] :
  OpX prog σ n E Pr ⟨none, .mapUpdate t x y z, ty, pos, aft, g⟩ (fun _ : Unit => True) (fun _ => E) (fun _ => (aa (eK r ks (ek f k v)) (R))) := by
 refine gL rfl fun a w ha hw => ?_
 rw [hT.eq] at hw
 obtain ⟨e, h1, h2⟩ := hm.spec
 obtain ⟨es, clk, hb, ho, hw'⟩ := nG hw
 have hck := iY (prog := prog) (t := kt) hk false w
 rcases gJ (prog := prog) (t := kt) hk w ho with ⟨h3, _, h4⟩ | ⟨j, e', h3, h5, h6, _⟩
 ·refine ⟨(), _, trivial, ?_, ng (es' := es.push { key := .agg k.toArray, val := v, born := clk }) (c' := clk + 1) hw' (by rw [Array.toList_push]; exact ho.put_new hk h4 v)⟩
  simp only [execOp, ha.ev hx, ha.ev hy, ha.ev hz, Instr.mapUpdate, Sem.run_bind, run_underlying h1, Result.andThen_ok, run_getObj_map w r es clk hb, hck, h3, dZ _ hb, Sem.run_pure]
 ·have h7 : (es[j]?.map (·.key)).getD (.agg k.toArray) = .agg k.toArray := by
   rw [<- Array.getElem?_toList, h5]
   exact h6
  refine ⟨(), _, trivial, ?_, ng (es' := es.modify j fun e => { e with key := .agg k.toArray, val := v }) (c' := clk) hw' (by rw [Array.toList_modify]; exact ho.put_at hk h5 h6 v)⟩
  simp only [execOp, ha.ev hx, ha.ev hy, ha.ev hz, Instr.mapUpdate, Sem.run_bind, run_underlying h1, Result.andThen_ok, run_getObj_map w r es clk hb, hck, h3, h7, lN (prog := prog) hk w, dZ _ hb, Sem.run_pure]
end
section
variable {prog : Program} {σ : World} {n : Nat} {E : Env} {P R : ab}
theorem Src.byb {b c : Nat} {s : ByteArray} {e : TypeId} [h : Take P (SLA.byb b s c e) R] : Src P (.slice (some (ad b 0)) s.size c) s.size (bV s) := by
 refine .inr ⟨b, 0, c, rfl, fun j u hu => ?_⟩
 rw [Nat.zero_add]
 rcases Nat.lt_or_ge j s.size with hj | hj
 ·rw [qt s j hj] at hu
  cases hu
  exact Rd.byb (c := c) (e := e) hj
 ·rw [List.getElem?_eq_none (by rw [dK]; exact hj)] at hu
  cases hu
section
variable {d : Option Tmp} {ty : TypeId} {t t' : TypeId} {pos : String} {aft : Array Edge} {g : Option (Nat × Bool)} {x y : Operand}
end
section
variable {ty : TypeId} {pos : String} {aft : Array Edge} {g : Option (Nat × Bool)} {x y : Operand}
end
end
section
variable {zs : List Value} {e ty src dst : TypeId} {m b c tx B d : Nat} {s : ByteArray} {R : ab} {w : World} {pos : String} {aft : Array Edge} {x : Operand} {u : Option Addr × Nat}
variable {prog : Program} {σ : World} {n : Nat} {E : Env} {P R : ab}
theorem jY {o : Oper} {X : Type} {φ : X -> Prop} {val : X -> Value} {P' : X -> ab} (ho : o.dst = none)
  (h : ∀ a w, Agree n E a -> Sat σ w P -> ∃ x w', φ x /\ (execOp a.eval o).run prog w = .ok (.value (val x)) w' /\ Sat σ w' (P' x)) : OpX prog σ n E P o φ (fun _ => E) P' := by
 intro a w ha hs Kn Q hk
 obtain ⟨x, w', hx, hr, hs'⟩ := h a w ha hs
 unfold Oper.wp
 rw [hr, Oper.upon_value]
 exact hk x _ _ hx (by rw [ho]; exact ha) hs'
section
variable {ty : TypeId} {pos : String} {aft : Array Edge} {g : Option (Nat × Bool)} {x y z : Operand} {t kt : TypeId} {ks : List CK} {r : Nat} {f : List Value -> Option Value} {k : List Value} {v : Value}
theorem rG {tk : TypeId} [hm : MapP prog t kt] [EqT prog kt ks] (hx : ev E x = some (.map (some r))) (hy : ev E y = some (.agg k.toArray)) (hk : Shape ks k) [hT : Take P (eK r ks f) R] :
  OpX prog σ n E P ⟨none, .call ⟨.builtin .delete, #[x, y], #[t, tk]⟩, ty, pos, aft, g⟩ (fun _ : Unit => True) (fun _ => E) (fun _ => (aa (eK r ks (je f k)) (R))) := by
 refine jY (val := fun _ => .tuple #[]) rfl fun a w ha hw => ?_
 rw [hT.eq] at hw
 obtain ⟨e, h1, h2⟩ := hm.spec
 obtain ⟨es, clk, hb, ho, hw'⟩ := nG hw
 have hck := iY (prog := prog) (t := kt) hk es.isEmpty w
 rcases gJ (prog := prog) (t := kt) hk w ho with ⟨h3, _, h4⟩ | ⟨j, e', h3, h5, h6, _⟩
 ·refine ⟨(), _, trivial, ?_, ng (es' := es) (c' := clk) hw' (ho.del_none h4)⟩
  simp only [execOp, resolve, List.map_toArray, List.map_cons, List.map_nil, ha.ev hx, ha.ev hy, Sem.run_bind, Sem.run_pure, Result.andThen_ok, invoke, builtin, Builtin.delete_, List.getElem?_toArray, List.getElem?_cons_zero, List.getElem?_cons_succ, run_underlying h1, run_getObj_map w r es clk hb, hck, h3, dZ _ hb]
 ·have hjl : j < es.size := by have := (List.getElem?_eq_some_iff.1 h5).1; rwa [Array.length_toList] at this
  refine ⟨(), _, trivial, ?_, ng (es' := es.eraseIdxIfInBounds j) (c' := clk) hw' (by rw [Array.eraseIdxIfInBounds, dif_pos hjl, Array.toList_eraseIdx]; exact ho.del_at h5 h6)⟩
  simp only [execOp, resolve, List.map_toArray, List.map_cons, List.map_nil, ha.ev hx, ha.ev hy, Sem.run_bind, Sem.run_pure, Result.andThen_ok, invoke, builtin, Builtin.delete_, List.getElem?_toArray, List.getElem?_cons_zero, List.getElem?_cons_succ, run_underlying h1, run_getObj_map w r es clk hb, hck, h3, dZ _ hb]
theorem oD {z : Array Value} (hz : z.toList = zs) (h1 : ∀ u ∈ zs, u.oneCell' = true) (k : Nat) : ∀ u ∈ (Builtin.zeroCells z k).toList, u.oneCell' = true := by
 intro u hu
 rw [Array.mem_toList_iff] at hu
 unfold Builtin.zeroCells at hu
 obtain ⟨i, hi, rfl⟩ := Array.mem_map.1 hu
 rw [Array.mem_range] at hi
 have hp : 0 < z.size := by
  rcases Nat.eq_zero_or_pos z.size with h | h
  ·rw [h, Nat.mul_zero] at hi; omega
  ·exact h
 have hl : i % z.size < z.size := Nat.mod_lt _ hp
 rw [getElem!_pos z _ hl]
 exact h1 _ (by rw [<- hz]; exact Array.mem_toList_iff.2 (Array.getElem_mem hl))
theorem u4 {e o k : Nat} {l : List Value} {te : TypeId} [Slc prog t e m] [Zer prog e zs] (hx : ev E x = some (.slice (some (ad b o)) k c)) (hzl : zs.length = m) (h1 : ∀ u ∈ zs, u.oneCell' = true) [hk : Look P b l te R] (hle : o + k * m <= l.length) :
  OpX prog σ n E P ⟨none, .call ⟨.builtin .clear, #[x], #[t]⟩, ty, pos, aft, g⟩ (fun l' : List Value => l'.take o = l.take o /\ l'.length = l.length) (fun _ => E) (fun l' => (aa (am b l' te) (R))) := by
 refine jY (val := fun _ => .tuple #[]) rfl fun a w ha hw => ?_
 rw [hk.eq] at hw
 obtain ⟨ht, i, hi, hsz⟩ := Slc.spec (prog := prog) t e m
 obtain ⟨i', z, hi', hz, hzc⟩ := Zer.spec (prog := prog) e zs
 obtain rfl : i = i' := Option.some.inj (hi.symm.trans hi')
 have hzsz : z.cells.size = m := by rw [<- Array.length_toList, hzc, hzl]
 have hzl2 : (Builtin.zeroCells z.cells k).toList.length = k * m := by rw [Array.length_toList, size_zeroCells, hzsz]
 have hst := run_storeCells_at prog b o te (Builtin.zeroCells z.cells k).toList 0 l.toArray w hw.blk (by rw [hzl2, List.size_toArray]; omega) (oD hzc h1 k)
 simp only [Nat.add_zero] at hst
 refine ⟨l.take o ++ (Builtin.zeroCells z.cells k).toList ++ l.drop (o + (Builtin.zeroCells z.cells k).toList.length), w.setRow b (l.take o ++ (Builtin.zeroCells z.cells k).toList ++ l.drop (o + (Builtin.zeroCells z.cells k).toList.length)).toArray, ⟨?_, ?_⟩, ?_, fM hw⟩
 ·rw [List.append_assoc, List.take_left' (by rw [List.length_take]; omega)]
 ·simp only [List.length_append, List.length_take, List.length_drop, hzl2]; omega
 ·have hcl : (Builtin.clear_ #[t] ty #[.slice (some (ad b o)) k c]).run prog w = .ok (.tuple #[]) (w.setRow b (l.take o ++ (Builtin.zeroCells z.cells k).toList ++ l.drop (o + (Builtin.zeroCells z.cells k).toList.length)).toArray) := by
   rcases Nat.eq_zero_or_pos k with rfl | hp
   ·have e0 : (Builtin.zeroCells z.cells 0).toList = [] := List.eq_nil_of_length_eq_zero (by rw [hzl2, Nat.zero_mul])
    rw [e0]
    simp only [List.append_nil, List.length_nil, Nat.add_zero, List.take_append_drop]
    rw [setRow_self w b l.toArray te (0, 0) hw.blk]
    simp [Builtin.clear_, ba ht]
   ·obtain ⟨k', rfl⟩ : ∃ k', k = k' + 1 := ⟨k - 1, by omega⟩
    have hzv : (zeroValue e).run prog w = .ok z w := by simp [zeroValue, cP hi, hz]
    have hst' : (storeCells (ad b o) (Builtin.zeroCells z.cells (k' + 1)).toList 0).run prog w = .ok () (w.setRow b (l.take o ++ (Builtin.zeroCells z.cells (k' + 1)).toList ++ l.drop (o + (Builtin.zeroCells z.cells (k' + 1)).toList.length)).toArray) := by simpa [ad] using hst
    simp only [Builtin.clear_, List.getElem?_toArray, List.getElem?_cons_zero, Sem.run_bind, ba ht, Result.andThen_ok, hzv, hst', Sem.run_pure]
  simp only [execOp, resolve, List.map_toArray, List.map_cons, List.map_nil, ha.ev hx, Sem.run_bind, Sem.run_pure, Result.andThen_ok, invoke, builtin, hcl]
end
def OwnB (e : TypeId) (x : Option Addr × Nat) (s : ByteArray) : ab := ex fun z : Option (Nat × Nat) => match z with
 | none => Ow e 1 (.slice x.1 s.size x.2) s.size (bV s)
 | some (b, c) => (aa (lift (x = (some (ad b 0), c) /\ s.size <= c /\ c <= maxLen)) (byb b s c e))
theorem OwnB.own {x : Option Addr × Nat} : Ent (Ow e 1 (.slice x.1 s.size x.2) s.size (bV s)) (OwnB e x s) := gl fun h hh => ⟨none, hh⟩
theorem OwnB.byb (h1 : s.size <= c) (h2 : c <= maxLen) : Ent (SLA.byb b s c e) (OwnB e (some (ad b 0), c) s) :=
 Ent.trans (Ent.lift (p := ((some (ad b 0), c) : Option Addr × Nat) = (some (ad b 0), c) /\ s.size <= c /\ c <= maxLen) ⟨rfl, h1, h2⟩) (gl fun h hh => ⟨some (b, c), hh⟩)
class FOwnB (P : ab) (e : TypeId) (x : Option Addr × Nat) (s : outParam ByteArray) (R : outParam ab) : Prop where
 eq : P = (aa (OwnB e x s) (R))
instance (priority := 100) {A P : ab} {x : Option Addr × Nat} [h : FOwnB P e x s R] : FOwnB (aa (A) (P)) e x s (aa (A) (R)) := ⟨by rw [h.eq, aR]⟩
instance (priority := 200) {x : Option Addr × Nat} : FOwnB (aa (OwnB e x s) (R)) e x s R := ⟨rfl⟩
instance (priority := 90) {x : Option Addr × Nat} : FOwnB (OwnB e x s) e x s emp := ⟨(cR _).symm⟩
theorem nE {x : Option Addr × Nat} (h : Sat σ w (aa (OwnB e x s) (R))) : Sat σ w (aa (Ow e 1 (.slice x.1 s.size x.2) s.size (bV s)) (R)) \/ ∃ b c, x = (some (ad b 0), c) /\ s.size <= c /\ c <= maxLen /\ Sat σ w (aa (SLA.byb b s c e) (R)) := by
 obtain ⟨z, hz⟩ := sat_ex.1 h
 cases z with
 | none => exact .inl hz
 | some bc =>
  obtain ⟨b, c⟩ := bc
  simp only [ak] at hz
  obtain ⟨⟨h1, h2, h3⟩, h4⟩ := sat_lift.1 hz
  exact .inr ⟨b, c, h1, h2, h3, h4⟩
theorem rP {d : Option Tmp} {g : Option (Nat × Bool)} {k : Nat} [Slc prog src e 1] [IntT prog e .u8] [Str prog dst] (hx : ev E x = some (.slice u.1 k u.2)) [hT : FOwnB P e u s R] (hk : k = s.size) :
  OpV prog σ n E P ⟨d, .convert src dst x, ty, pos, aft, g⟩ (.string s) := fun a w ha hw => by
 subst hk
 have hw' := hw
 rw [hT.eq] at hw'
 rcases nE hw' with h | ⟨b, c, rfl, _, _, h⟩
 ·exact rN (P := (aa (Ow e 1 (.slice u.1 s.size u.2) s.size (bV s)) (R))) hx rfl a w ha h
 ·exact nm (P := (aa (SLA.byb b s c e) (R))) hx (Src.byb (e := e)) a w ha h
theorem fN (P : Program) (g o : Nat) (t : TypeId) (fz : Nat × Nat) : ∀ (vs : List Value) (i : Nat) (cur : Array Value) (w : World), w.heap[g]? = some (.cells cur t fz) -> cur.size <= fz.1 -> o + i + vs.length <= cur.size -> (∀ v ∈ vs, v.oneCell' = true) ->
  (storeCells ⟨g, o, none⟩ vs i).run P w = .ok () (w.setRow g (cur.toList.take (o + i) ++ vs ++ cur.toList.drop (o + i + vs.length)).toArray)
 | [], i, cur, w, hg, _, _, _ => by
  simp only [storeCells, List.append_nil, List.length_nil, Nat.add_zero, List.take_append_drop, Array.toArray_toList]
  rw [setRow_self w g cur t fz hg]
  rfl
 | v :: rest, i, cur, w, hg, hfz, hl, h1 => by
  have hi : o + i < cur.size := by simp at hl; omega
  have hadd : (⟨g, o, none⟩ : Addr).add i = ⟨g, o + i, none⟩ := by unfold Addr.add; split <;> simp_all
  have hcell : w.cell? ⟨g, o + i, none⟩ = some cur[o + i] := by simp [World.cell?, hg, hi]
  have hfro : w.frozen? ⟨g, o + i, none⟩ = false := by
   obtain ⟨lo, hi'⟩ := fz
   simp only [World.frozen?, hg, Bool.and_eq_false_iff, decide_eq_false_iff_not]
   left
   simp only at hfz
   omega
  have hst : (store ((⟨g, o, none⟩ : Addr).add i) v).run P w = .ok () (w.setRow g (cur.setIfInBounds (o + i) v)) := by
   rw [hadd, run_store P w _ v _ (h1 v (by simp)), hcell]
   simp [hfro, setCell_eq_setRow w g (o + i) cur t fz v hg]
  have ih := fN P g o t fz rest (i + 1) (cur.setIfInBounds (o + i) v) (w.setRow g (cur.setIfInBounds (o + i) v)) (setRow_heap w g cur _ t _ hg) (by simpa using hfz) (by simp at hl ⊢; omega) (fun x hx => h1 x (by simp [hx]))
  simp only [storeCells, Sem.run_bind, hst, Result.andThen_ok, ih, setRow_setRow]
  congr 3
  have e := list_seg_step cur.toList (o + i) v rest (by simp at hl ⊢; omega)
  simpa [Array.toList_setIfInBounds, Nat.add_assoc] using e
theorem eO (s : ByteArray) (c : Nat) : (bytesRow s c).toList = bV s ++ List.replicate (c - s.size) (.int .u8 0) := by
 unfold bytesRow bV
 simp
theorem rA {t e : Nat} {r : ByteArray} [Slc prog t e 1] [Str prog tx] [Zer prog e zs] [Byt prog e B] (hzl : zs.length = 1) (hs : Sat σ w (aa (OwnB e u s) (P)))
  (h63 : s.size + r.size <= maxLen) (hB : (s.size + r.size) * B <= 140737488355328) :
  ∃ u' w', (Builtin.append_ #[t, tx] ty #[.slice u.1 s.size u.2, .string r]).run prog w = .ok (.slice u'.1 (s ++ r).size u'.2) w' /\ Sat σ w' (aa (OwnB e u' (s ++ r)) (P)) := by
 rcases nE hs with h | ⟨b, c, rfl, hc1, hc2, h⟩
 ·obtain ⟨A, c, w', h1, h2⟩ := mP (prog := prog) (t := t) (tx := tx) (ty := ty) hzl h h63 hB
  refine ⟨(A, c), w', by rw [ByteArray.size_append]; exact h1, ?_⟩
  rw [<- dC, <- ByteArray.size_append] at h2
  exact h2.ent (Ent.frame (OwnB.own (x := (A, c))) P)
 ·obtain ⟨ht, i, hi, hsz⟩ := Slc.spec (prog := prog) t e 1
  have htx := Str.spec (prog := prog) tx
  obtain ⟨i', z, hi', hz, hzc⟩ := Zer.spec (prog := prog) e zs
  obtain rfl : i = i' := Option.some.inj (hi.symm.trans hi')
  obtain ⟨i', hi'', hb⟩ := Byt.spec (prog := prog) e B
  obtain rfl : i = i' := Option.some.inj (hi.symm.trans hi'')
  have hl : (bV r).length = r.size := dK r
  have hls : (bV s).length = s.size := dK s
  have hzsz : z.cells.size = 1 := by rw [<- Array.length_toList, hzc, hzl]
  have hblk := h.blk
  have hrl := eO s c
  have hrs : (bytesRow s c).size = c := by rw [<- Array.length_toList, hrl, List.length_append, hls, List.length_replicate]; omega
  by_cases hroom : s.size + r.size <= c
  ·have hfc : (Builtin.firstCells 1 r.size (.string r)).run prog w = .ok (bV r).toArray w := firstCells_string (P := prog) r w
   have hst := fN prog b s.size e _ (bV r) 0 (bytesRow s c) w hblk (Nat.le_refl _) (by rw [hrs, hl]; omega) (jo r)
   simp only [Nat.add_zero] at hst
   have e2 : ((bytesRow s c).toList.take s.size ++ bV r ++ (bytesRow s c).toList.drop (s.size + (bV r).length)).toArray = bytesRow (s ++ r) c := by
    apply Array.toList_inj.1
    rw [hrl, eO (s ++ r), List.take_left' hls, hl, dC, ByteArray.size_append]
    simp only [List.append_assoc]
    congr 2
    rw [<- List.drop_drop, List.drop_left' hls, List.drop_replicate]
    congr 1
    omega
   rw [e2] at hst
   have hst' : (storeCells ((ad b 0).add (s.size * 1)) (bV r) 0).run prog w = .ok () (w.setRow b (bytesRow (s ++ r) c)) := by
    rw [db, Nat.zero_add, Nat.mul_one]; exact hst
   have hrs' : (bytesRow (s ++ r) c).size = c := by rw [<- Array.length_toList, eO, List.length_append, dK, List.length_replicate, ByteArray.size_append]; omega
   refine ⟨(some (ad b 0), c), w.setRow b (bytesRow (s ++ r) c), ?_, ?_⟩
   ·simp only [Builtin.append_, List.getElem?_toArray, List.getElem?_cons_zero, List.getElem?_cons_succ, Sem.run_bind, ba ht, ba htx, Result.andThen_ok, bk hi, Sem.run_pure, Builtin.lenOf, hsz, hroom, if_true, hfc, hst', Sem.run_ite, Bool.false_eq_true, if_false, Bool.not_false, ByteArray.size_append]
   ·have h5 : Sat σ (w.setRow b (bytesRow (s ++ r) c)) (aa (SLA.byb b (s ++ r) c e) (P)) := by
     refine h.update (w' := w.setRow b (bytesRow (s ++ r) c)) rfl rfl rfl ?_ (fun k hk => setRow_other w b k _ hk)
     rw [setRow_heap w b _ _ e _ hblk, hrs, hrs']
    exact h5.ent (Ent.frame (OwnB.byb (by rw [ByteArray.size_append]; exact hroom) hc2) P)
  ·have hold : ∀ j u, (bV s)[j]? = some u -> w.cell? ((ad b 0).add j) = some u := fun j u hj => by
    have hjl : j < s.size := by
     rcases Nat.lt_or_ge j s.size with h | h
     ·exact h
     ·rw [List.getElem?_eq_none (by rw [hls]; exact h)] at hj; cases hj
    rw [qt s j hjl] at hj
    cases hj
    rw [db, Nat.zero_add]
    exact pN h hjl
   have hsrc : Go.Src prog i.size tx (.string r) r.size (bV r) w := by rw [hsz]; exact Go.Src.ofString w htx r
   have hr' := run_append_grow_src (P := prog) w t tx ty e i z ht hi hz (some (ad b 0)) s.size c (bV s) (by
    have h5 := run_firstCells_some (P := prog) w.drew i.size s.size (ad b 0) s.size c (bV s) (by rw [hls, hsz, Nat.mul_one]) (fun j u hj => by simpa using hold j u hj)
    exact h5) (.string r) r.size (bV r) hsrc (by omega) (by simp only [maxLen] at h63; omega) (growslice_fits (by omega) (by rw [hb]; exact hB))
   have hge := grownCap_ge w (s.size + r.size) c e
   have hle := grownCap_le_maxLen w (s.size + r.size) c e h63
   refine ⟨(some ⟨w.heap.size, 0, none⟩, grownCap w (s.size + r.size) c e), _, by rw [ByteArray.size_append]; exact hr', ?_⟩
   have h2 := h.drop.drew.alloc (.cells ((bV s ++ bV r).toArray ++ Builtin.zeroCells z.cells (grownCap w (s.size + r.size) c e - (s.size + r.size))) e)
   have e1 : ((bV s ++ bV r).toArray ++ Builtin.zeroCells z.cells (grownCap w (s.size + r.size) c e - (s.size + r.size))) = ([] ++ (bV s ++ bV r) ++ (Builtin.zeroCells z.cells (grownCap w (s.size + r.size) c e - (s.size + r.size))).toList).toArray := by
    apply Array.toList_inj.1; simp
   rw [e1] at h2 ⊢
   refine h2.ent (Ent.frame (Ent.trans (Ow.mk (v := .slice (some ⟨w.heap.size, 0, none⟩) (s.size + r.size) (grownCap w (s.size + r.size) c e)) (len := s.size + r.size) (m := 1) (cap := grownCap w (s.size + r.size) c e) rfl hge hle (by rw [List.length_append, hls, hl, Nat.mul_one]) ?_) ?_) P)
   ·rw [Array.length_toList, size_zeroCells, hzsz]
    exact Nat.le_refl _
   ·rw [<- dC, <- ByteArray.size_append]
    exact OwnB.own (x := (some ⟨w.heap.size, 0, none⟩, _))
theorem mS {y : Operand} {t e : Nat} {g : Option (Nat × Bool)} {r : ByteArray} {k : Nat} [Slc prog t e 1] [Str prog tx] [Zer prog e zs] [Byt prog e B] (hx : ev E x = some (.slice u.1 k u.2)) (hy : ev E y = some (.string r)) [hT : FOwnB P e u s R] (hk : k = s.size)
  (hzl : zs.length = 1) (h63 : s.size + r.size <= maxLen) (hB : (s.size + r.size) * B <= 140737488355328) (hd : Nat.blt d n = true) :
  OpX prog σ n E P ⟨some d, .call ⟨.builtin .append, #[x, y], #[t, tx]⟩, ty, pos, aft, g⟩ (fun _ : Option Addr × Nat => True) (fun u' => (d, .slice u'.1 (s ++ r).size u'.2) :: E) (fun u' => (aa (OwnB e u' (s ++ r)) (R))) := by
 subst hk
 refine bI rfl hd fun a w ha hw => ?_
 rw [hT.eq] at hw
 obtain ⟨u', w', hr, hs'⟩ := rA (prog := prog) (t := t) (tx := tx) (ty := ty) hzl hw h63 hB
 refine ⟨u', w', trivial, ?_, hs'⟩
 simp only [execOp, resolve, List.map_toArray, List.map_cons, List.map_nil, ha.ev hx, ha.ev hy, Sem.run_bind, Sem.run_pure, Result.andThen_ok, invoke, builtin, hr]
theorem rE {g : Option (Nat × Bool)} [Str prog src] [Slc prog dst e 1] [IntT prog e .u8] (hx : ev E x = some (.string s)) (hs : s.size <= maxLen) (hd : Nat.blt d n = true) :
  OpX prog σ n E P ⟨some d, .convert src dst x, ty, pos, aft, g⟩ (fun _ : Option Addr × Nat => True) (fun r => (d, .slice r.1 s.size r.2) :: E) (fun r => (aa (OwnB e r s) (P))) := by
 refine bI rfl hd fun a w ha hw => ?_
 have h1 := (Slc.spec (prog := prog) dst e 1).1
 have h2 := IntT.spec (prog := prog) e .u8
 have h3 := Str.spec (prog := prog) src
 refine ⟨(some (ad w.heap.size 0), grownCap w s.size 0 e), _, trivial, ?_, (show Sat σ _ (aa (SLA.byb w.heap.size s (grownCap w s.size 0 e) e) (P)) from hw.drew.alloc _).ent (Ent.frame (OwnB.byb (grownCap_ge w s.size 0 e) (grownCap_le_maxLen w s.size 0 e hs)) P)⟩
 simp only [execOp, ha.ev hx, Sem.run_bind, run_bytes_of_string (P := prog) w src dst e s h3 h1 h2, Sem.run_pure, Result.andThen_ok]
section
variable {ty : TypeId} {pos : String} {aft : Array Edge} {g : Option (Nat × Bool)} {x y : Operand} {t t' : TypeId}
theorem m5 {e : Nat} [Slc prog t e m] (hd : Nat.blt d n = true) :
  OpX prog σ n E P ⟨some d, .buildSlice t 0 #[], ty, pos, aft, g⟩ (fun _ : Nat => True) (fun b => (d, .slice (some (ad b 0)) 0 0) :: E) (fun b => (aa (Ow e m (.slice (some (ad b 0)) 0 0) 0 []) (P))) := by
 refine bI rfl hd fun a w ha hs => ?_
 obtain ⟨hu, i, hi, hsz⟩ := Slc.spec (prog := prog) t e m
 have hsz' : (sizeOf e).run prog w = .ok m w := by rw [bk hi, hsz]
 refine ⟨w.heap.size, w.alloc (.cells #[] e), trivial, ?_, (show Sat σ _ (aa (am w.heap.size [] e) (P)) from hs.alloc _).ent (Ent.frame (Ow.lit (by simp) (by unfold maxLen; decide)) P)⟩
 simp only [execOp, Instr.buildSlice, Sem.run_bind, ba hu, Result.andThen_ok, hsz', Nat.zero_mul, Sem.run_ite, Sem.run_pure, if_true, Nat.not_lt_zero, if_false, List.map_toArray, List.map_nil]
 simp [Instr.fill, newRow]
 rw [show Array.range 0 = #[] from rfl]
 simp
end
end
section
variable {w : World} {b tx B : Nat} {e t ty : TypeId} {pos : String} {aft : Array Edge} {x : Operand} {R : ab} {zs : List Value} {r : ByteArray}
variable {prog : Program} {σ : World} {n : Nat} {E : Env} {P R : ab}
theorem oU {l : List Value} (h : Sat σ w (aa (am b l e) (R))) : w.shape? b = some (e, l.length) := by
 have hb := h.blk
 unfold World.shape?
 rw [hb]
 simp
def Ir (prog : Program) (s d t : TypeId) (m : Nat) : Bool := i2 prog s (fun | .pointer t' => Nat.beq t' t | _ => false) && i2 prog d (fun | .unsafePointer => true | _ => false) && oI prog t (fun i => Nat.beq i.size m && !Nat.beq m 0) && liesAt prog prog.depth t (m / prog.cellsOf t) 0 t 1
class UpT (prog : Program) (s : TypeId) (d t : outParam TypeId) (m : outParam Nat) : Prop where
 b : Ir prog s d t m = true
theorem UpT.spec {s d : TypeId} {m : Nat} (h : UpT prog s d t m) : prog.underlying s = some (.pointer t) /\ prog.underlying d = some .unsafePointer /\ (∃ i, prog.info? t = some i /\ i.size = m /\ m ≠ 0) /\ liesAt prog prog.depth t (m / prog.cellsOf t) 0 t 1 = true := by
 have := h.b
 unfold Ir at this
 simp only [Bool.and_eq_true] at this
 obtain ⟨⟨⟨h1, h2⟩, h3⟩, h4⟩ := this
 obtain ⟨d1, g1, k1⟩ := cM h1
 obtain ⟨d2, g2, k2⟩ := cM h2
 obtain ⟨i, g3, k3⟩ := fY h3
 refine ⟨?_, ?_, ⟨i, g3, ?_⟩, h4⟩
 ·split at k1
  ·rw [g1, Nat.eq_of_beq_eq_true k1]
  ·cases k1
 ·split at k2
  ·exact g2
  ·cases k2
 ·simp only [Bool.and_eq_true, Bool.not_eq_true'] at k3
  exact ⟨Nat.eq_of_beq_eq_true k3.1, fun e => by rw [e] at k3; cases k3.2⟩
section
variable {d : Option Tmp} {ty : TypeId} {pos : String} {aft : Array Edge} {g : Option (Nat × Bool)} {x y : Operand} {s u t : TypeId} {m b : Nat} {l : List Value}
theorem pZ [hu : UpT prog s u t m] (hx : ev E x = some (.pointer (some (ad b 0)))) [hk : Look P b l t R] (hl : l.length = m) : OpV prog σ n E P ⟨d, .convert s u x, ty, pos, aft, g⟩ (.pointer (some (ad b 0))) := fun _ w ha hw => by
 rw [hk.eq] at hw
 obtain ⟨h1, h2, ⟨i, h3, h4, h5⟩, h6⟩ := hu.spec
 have := Lib.run_to_unsafe (P := prog) (w := w) (ad b 0) h1 h2 h3 (by rw [h4]; exact h5) (oU hw) (by show 0 < l.length; omega)
 simp only [execOp, ha.ev hx, Sem.run_bind, this, Result.andThen_ok, Sem.run_pure]
theorem nR [hu : UpT prog s u t m] (hx : ev E x = some (.pointer (some (ad b 0)))) [hk : Look P b l t R] (hl : l.length = m) : OpV prog σ n E P ⟨d, .convert u s x, ty, pos, aft, g⟩ (.pointer (some (ad b 0))) := fun _ w ha hw => by
 rw [hk.eq] at hw
 obtain ⟨h1, h2, ⟨i, h3, h4, h5⟩, h6⟩ := hu.spec
 have := Lib.run_from_unsafe (P := prog) (w := w) (ad b 0) h2 h1 h3 (oU hw) (by rw [hl]; exact h6)
 simp only [execOp, ha.ev hx, Sem.run_bind, this, Result.andThen_ok, Sem.run_pure]
theorem ta [hu : UpT prog s u t m] {a : Addr} {t' : TypeId} (hx : ev E x = some (.pointer (some a))) (hy : ev E y = some (.pointer (some a))) : OpV prog σ n E P ⟨d, .binOp .neq s x y t', ty, pos, aft, g⟩ (.bool false) := fun _ w ha _ => by
 obtain ⟨h1, h2, ⟨i, h3, h4, h5⟩, h6⟩ := hu.spec
 have := Lib.run_neq_ptr_same (P := prog) (w := w) a h1 h3
 simp only [execOp, ha.ev hx, ha.ev hy]
 rw [show eqGuard .neq s x y (.pointer (some a)) (.pointer (some a)) = pure () from rfl]
 simp only [Sem.run_bind, Sem.run_pure, Result.andThen_ok, this]
end
class NoEsc (prog : Program) (f : FuncId) : Prop where
 b : ∃ fn, prog.funcs[f]? = some fn /\ (fn.name == "runtime.NumGoroutine") = false /\ fn.body.isNone = true /\ Extern.findNext fn = none /\ Extern.find fn = some Extern.AbiNoEscape.same
theorem pW {d : Nat} {g : Option (Nat × Bool)} {tys : Array TypeId} {f : FuncId} {v : Value} [hf : NoEsc prog f] (hx : evl E [x] = some [v]) (hd : Nat.blt d n = true) :
  OpX prog σ n E P ⟨some d, .call ⟨.value (.func f), #[x], tys⟩, ty, pos, aft, g⟩ (fun _ : Unit => True) (fun _ => (d, v) :: E) (fun _ => P) := by
 refine bI rfl hd fun a w ha hw => ⟨(), w, trivial, ?_, hw⟩
 obtain ⟨fn, h1, h2, h3, h4, h5⟩ := hf.b
 have hc := run_callFunc_extern (P := prog) h1 h2 h3 h4 h5 #[v] w
 rw [Lib.run_noEscape] at hc
 unfold execOp
 simp only [resolve, Deferred.ofValue, ha.ev (show ev E (.func f) = some (.func (.func f) #[] #[]) from rfl), ha.evls (l := #[x]) hx, Sem.run_bind, Sem.run_pure, Result.andThen_ok, invoke]
 simp [hc]
def OwnZ (e : TypeId) (x : Option Addr × Nat) (s : ByteArray) : ab := ex fun z : Option (Nat × Nat × List Value) => match z with
 | none => lift (x = (none, 0) /\ s.size = 0)
 | some (b, c, post) => (aa (lift (x = (some (ad b 0), c) /\ s.size <= c /\ c <= maxLen /\ c - s.size <= post.length)) (am b (bV s ++ post) e))
theorem wQ {x : Option Addr × Nat} {s : ByteArray} (h : Sat σ w (aa (OwnZ e x s) (R))) : (x = (none, 0) /\ s.size = 0 /\ Sat σ w R) \/ ∃ b c post, x = (some (ad b 0), c) /\ s.size <= c /\ c <= maxLen /\ c - s.size <= List.length post /\ Sat σ w (aa (am b (bV s ++ post) e) (R)) := by
 obtain ⟨z, hz⟩ := sat_ex.1 h
 cases z with
 | none =>
  obtain ⟨⟨h1, h2⟩, h3⟩ := sat_lift.1 hz
  exact .inl ⟨h1, h2, h3⟩
 | some bc =>
  obtain ⟨b, c, post⟩ := bc
  simp only [ak] at hz
  obtain ⟨⟨h1, h2, h3, h4⟩, h5⟩ := sat_lift.1 hz
  exact .inr ⟨b, c, post, h1, h2, h3, h4, h5⟩
theorem OwnZ.mk {c : Nat} {s : ByteArray} {post : List Value} (h1 : s.size <= c) (h2 : c <= maxLen) (h3 : c - s.size <= post.length) : Ent (am b (bV s ++ post) e) (OwnZ e (some (ad b 0), c) s) :=
 Ent.trans (Ent.lift (p := ((some (ad b 0), c) : Option Addr × Nat) = (some (ad b 0), c) /\ s.size <= c /\ c <= maxLen /\ c - s.size <= post.length) ⟨rfl, h1, h2, h3⟩) (gl fun h hh => ⟨some (b, c, post), hh⟩)
class FOwnZ (P : ab) (e : TypeId) (x : Option Addr × Nat) (s : outParam ByteArray) (R : outParam ab) : Prop where
 eq : P = (aa (OwnZ e x s) (R))
instance (priority := 100) {A P : ab} {x : Option Addr × Nat} {s : ByteArray} [h : FOwnZ P e x s R] : FOwnZ (aa (A) (P)) e x s (aa (A) (R)) := ⟨by rw [h.eq, aR]⟩
instance (priority := 200) {x : Option Addr × Nat} {s : ByteArray} : FOwnZ (aa (OwnZ e x s) (R)) e x s R := ⟨rfl⟩
theorem vx {s : ByteArray} (h : s.size = 0) : bV s = [] := List.eq_nil_of_length_eq_zero (by rw [dK, h])
theorem ry {t e : Nat} {u : Option Addr × Nat} {s : ByteArray} [Slc prog t e 1] [Str prog tx] [Zer prog e zs] [Byt prog e B] (hzl : zs.length = 1) (hs : Sat σ w (aa (OwnZ e u s) (P)))
  (h63 : s.size + r.size <= maxLen) (hB : (s.size + r.size) * B <= 140737488355328) :
  ∃ u' w', (Builtin.append_ #[t, tx] ty #[.slice u.1 s.size u.2, .string r]).run prog w = .ok (.slice u'.1 (s ++ r).size u'.2) w' /\ Sat σ w' (aa (OwnZ e u' (s ++ r)) (P)) := by
 obtain ⟨ht, i, hi, hsz⟩ := Slc.spec (prog := prog) t e 1
 have htx := Str.spec (prog := prog) tx
 obtain ⟨i', z, hi', hz, hzc⟩ := Zer.spec (prog := prog) e zs
 obtain rfl : i = i' := Option.some.inj (hi.symm.trans hi')
 obtain ⟨i', hi'', hb⟩ := Byt.spec (prog := prog) e B
 obtain rfl : i = i' := Option.some.inj (hi.symm.trans hi'')
 have hl : (bV r).length = r.size := dK r
 have hls : (bV s).length = s.size := dK s
 have hzsz : z.cells.size = 1 := by rw [<- Array.length_toList, hzc, hzl]
 have hsmall : s.size + r.size <= 9223372036854775807 := by simp only [maxLen] at h63; omega
 have hsrc : Go.Src prog i.size tx (.string r) r.size (bV r) w := by rw [hsz]; exact Go.Src.ofString w htx r
 have fresh : ∀ old : Nat, Sat σ w P -> Sat σ (w.drew.alloc (.cells ((bV s ++ bV r).toArray ++ Builtin.zeroCells z.cells (grownCap w (s.size + r.size) old e - (s.size + r.size))) e))
   (aa (OwnZ e (some (ad w.heap.size 0), grownCap w (s.size + r.size) old e) (s ++ r)) (P)) := by
  intro old hP
  have hge := grownCap_ge w (s.size + r.size) old e
  have hle := grownCap_le_maxLen w (s.size + r.size) old e h63
  have h2 := hP.drew.alloc (.cells ((bV s ++ bV r).toArray ++ Builtin.zeroCells z.cells (grownCap w (s.size + r.size) old e - (s.size + r.size))) e)
  have e1 : ((bV s ++ bV r).toArray ++ Builtin.zeroCells z.cells (grownCap w (s.size + r.size) old e - (s.size + r.size))) = (bV (s ++ r) ++ (Builtin.zeroCells z.cells (grownCap w (s.size + r.size) old e - (s.size + r.size))).toList).toArray := by
   apply Array.toList_inj.1; rw [dC]; simp
  rw [e1] at h2 ⊢
  refine h2.ent (Ent.frame (OwnZ.mk (by rw [ByteArray.size_append]; exact hge) hle ?_) P)
  rw [Array.length_toList, size_zeroCells, hzsz, ByteArray.size_append]
  omega
 rcases wQ hs with ⟨rfl, h0, hP⟩ | ⟨b, c, post, rfl, hc1, hc2, hc3, hP⟩
 ·by_cases hk : r.size = 0
  ·have he := iG hk
   have he2 := iG h0
   subst he he2
   refine ⟨(none, 0), w, ?_, hs.ent (Ent.of (by simp))⟩
   have hfc := firstCells_string (P := prog) ByteArray.empty w
   simp only [Builtin.append_, List.getElem?_toArray, List.getElem?_cons_zero, List.getElem?_cons_succ, Sem.run_bind, ba ht, ba htx, Result.andThen_ok, bk hi, Sem.run_pure, Builtin.lenOf, hsz, Sem.run_ite, Bool.false_eq_true, if_false, Bool.not_false, if_true, ByteArray.size_empty, Nat.add_zero, Nat.le_refl] at hfc ⊢
   rw [hfc]
   rfl
  ·have hb0 := vx h0
   have hr' := run_append_grow_src (P := prog) w t tx ty e i z ht hi hz none 0 0 [] (by simp [Builtin.firstCells]) (.string r) r.size (bV r) hsrc (by omega) (by omega) (by
    have := nextslicecap_zero (need := r.size) (by omega)
    rw [Nat.zero_add, this, hb]
    rw [h0] at hB
    simp only [Nat.zero_add] at hB
    omega)
   have h3 := fresh 0 hP
   rw [hb0, h0] at h3
   rw [h0]
   refine ⟨(some (ad w.heap.size 0), grownCap w (0 + r.size) 0 e), _, ?_, h3⟩
   rw [ByteArray.size_append, h0]
   exact hr'
 ·have hblk := hP.blk
  have hold : ∀ j u, (bV s)[j]? = some u -> w.cell? ((ad b 0).add j) = some u := fun j u hj => by
   have hjl : j < (bV s).length := by
    rcases Nat.lt_or_ge j (bV s).length with h | h
    ·exact h
    ·rw [List.getElem?_eq_none h] at hj; cases hj
   rw [db, Nat.zero_add, fZ hP, List.getElem?_append_left hjl, hj]
  by_cases hroom : s.size + r.size <= c
  ·have hfc : (Builtin.firstCells 1 r.size (.string r)).run prog w = .ok (bV r).toArray w := firstCells_string (P := prog) r w
   have hst := run_storeCells_at prog b s.size e (bV r) 0 (bV s ++ post).toArray w hblk (by rw [List.size_toArray, List.length_append, hls, hl]; omega) (jo r)
   simp only [Nat.add_zero] at hst
   have e2 : (bV s ++ post).toArray.toList.take s.size ++ bV r ++ (bV s ++ post).toArray.toList.drop (s.size + (bV r).length) = bV (s ++ r) ++ post.drop r.size := by
    show (bV s ++ post).take s.size ++ bV r ++ (bV s ++ post).drop (s.size + (bV r).length) = _
    rw [List.take_left' hls, <- List.drop_drop, List.drop_left' hls, hl, dC]
   rw [e2] at hst
   have hst' : (storeCells ((ad b 0).add (s.size * 1)) (bV r) 0).run prog w = .ok () (w.setRow b (bV (s ++ r) ++ post.drop r.size).toArray) := by
    rw [db, Nat.zero_add, Nat.mul_one]; exact hst
   refine ⟨(some (ad b 0), c), w.setRow b (bV (s ++ r) ++ post.drop r.size).toArray, ?_, ?_⟩
   ·simp only [Builtin.append_, List.getElem?_toArray, List.getElem?_cons_zero, List.getElem?_cons_succ, Sem.run_bind, ba ht, ba htx, Result.andThen_ok, bk hi, Sem.run_pure, Builtin.lenOf, hsz, hroom, if_true, hfc, hst', Sem.run_ite, Bool.false_eq_true, if_false, Bool.not_false, ByteArray.size_append]
   ·exact (fM (l' := bV (s ++ r) ++ post.drop r.size) hP).ent (Ent.frame (OwnZ.mk (by rw [ByteArray.size_append]; exact hroom) hc2 (by rw [ByteArray.size_append, List.length_drop]; omega)) P)
  ·have hr' := run_append_grow_src (P := prog) w t tx ty e i z ht hi hz (some (ad b 0)) s.size c (bV s) (by
    have h5 := run_firstCells_some (P := prog) w.drew i.size s.size (ad b 0) s.size c (bV s) (by rw [hls, hsz, Nat.mul_one]) (fun j u hj => by simpa using hold j u hj)
    exact h5) (.string r) r.size (bV r) hsrc (by omega) (by omega) (growslice_fits (by omega) (by rw [hb]; exact hB))
   refine ⟨(some (ad w.heap.size 0), grownCap w (s.size + r.size) c e), _, ?_, fresh c hP.drop⟩
   rw [ByteArray.size_append]
   exact hr'
theorem rH {d : Nat} {y : Operand} {t e : Nat} {g : Option (Nat × Bool)} {u : Option Addr × Nat} {s : ByteArray} {k : Nat} [Slc prog t e 1] [Str prog tx] [Zer prog e zs] [Byt prog e B] (hx : ev E x = some (.slice u.1 k u.2)) (hy : ev E y = some (.string r)) [hT : FOwnZ P e u s R] (hk : k = s.size)
  (hzl : zs.length = 1) (h63 : s.size + r.size <= maxLen) (hB : (s.size + r.size) * B <= 140737488355328) (hd : Nat.blt d n = true) :
  OpX prog σ n E P ⟨some d, .call ⟨.builtin .append, #[x, y], #[t, tx]⟩, ty, pos, aft, g⟩ (fun _ : Option Addr × Nat => True) (fun u' => (d, .slice u'.1 (s ++ r).size u'.2) :: E) (fun u' => (aa (OwnZ e u' (s ++ r)) (R))) := by
 subst hk
 refine bI rfl hd fun a w ha hw => ?_
 rw [hT.eq] at hw
 obtain ⟨u', w', hr, hs'⟩ := ry (prog := prog) (t := t) (tx := tx) (ty := ty) hzl hw h63 hB
 refine ⟨u', w', trivial, ?_, hs'⟩
 simp only [execOp, resolve, List.map_toArray, List.map_cons, List.map_nil, ha.ev hx, ha.ev hy, Sem.run_bind, Sem.run_pure, Result.andThen_ok, invoke, builtin, hr]
def Iw (prog : Program) (t e : TypeId) : Bool := i2 prog t (fun | .pointer e' => Nat.beq e' e | _ => false) && Nat.beq (prog.cellsOf e) 1
class PtrE (prog : Program) (t : TypeId) (e : outParam TypeId) : Prop where
 b : Iw prog t e = true
theorem PtrE.spec (h : PtrE prog t e) : prog.underlying t = some (.pointer e) /\ prog.cellsOf e = 1 := by
 have := h.b
 unfold Iw at this
 simp only [Bool.and_eq_true] at this
 obtain ⟨d1, g1, k1⟩ := cM this.1
 refine ⟨?_, Nat.eq_of_beq_eq_true this.2⟩
 split at k1
 ·rw [g1, Nat.eq_of_beq_eq_true k1]
 ·cases k1
end
section
variable {prog : Program} {σ : World} {n : Nat} {E : Env} {P : ab}
class NoZ (prog : Program) (f : FuncId) (t e : outParam TypeId) : Prop where
 b : ∃ fn ps, prog.funcs[f]? = some fn /\ (fn.name == "runtime.NumGoroutine") = false /\ fn.body.isNone = true /\ Extern.findNext fn = none /\ Extern.find fn = some (Extern.BytealgMakeNoZero.makeNoZero ps #[t]) /\ prog.underlying t = some (.slice e)
theorem nO {d : Nat} {ty : TypeId} {pos : String} {aft : Array Edge} {g : Option (Nat × Bool)} {x : Operand} {tys : Array TypeId} {f : FuncId} {t e k : Nat} [hf : NoZ prog f t e] (hx : evl E [x] = some [.int .i64 (k : Nat)]) (hk : k <= 281474976710656) (hd : Nat.blt d n = true) :
  OpX prog σ n E P ⟨some d, .call ⟨.value (.func f), #[x], tys⟩, ty, pos, aft, g⟩ (fun r : Nat × List Value => k <= r.2.length /\ r.2.length <= maxLen) (fun r => (d, .slice (some (ad r.1 0)) k r.2.length) :: E) (fun r => (aa (am r.1 r.2 e) (P))) := by
 refine bI rfl hd fun a w ha hw => ?_
 obtain ⟨fn, ps, h1, h2, h3, h4, h5, h6⟩ := hf.b
 have hc := run_callFunc_extern (P := prog) h1 h2 h3 h4 h5 #[.int .i64 (k : Nat)] w
 obtain ⟨cs, hr, hn, hm⟩ := Lib.run_makeNoZero (P := prog) w ps t e h6 k hk
 rw [hr] at hc
 refine ⟨(w.heap.size, cs.toList), w.drew.drew.alloc (.cells cs e), ⟨by simpa using hn, by simpa using hm (by unfold maxLen; omega)⟩, ?_, ?_⟩
 ·unfold execOp
  simp only [resolve, Deferred.ofValue, ha.ev (show ev E (.func f) = some (.func (.func f) #[] #[]) from rfl), ha.evls (l := #[x]) hx, Sem.run_bind, Sem.run_pure, Result.andThen_ok, invoke]
  simp [hc, ad]
 ·have := hw.drew.drew.alloc (.cells cs.toList.toArray e)
  rw [Array.toArray_toList] at this
  exact this
end
section
attribute [local instance] Classical.propDecidable
variable {w : World} {es : Array MapEntry} {c : Nat}
class MapZ (prog : Program) (t : TypeId) (k : outParam TypeId) (z : outParam Value) : Prop where
 b : ∃ e, prog.underlying t = some (.map k e) /\ (prog.info? e).bind (·.zero) = some z
theorem MapZ.spec {prog : Program} {t k : TypeId} {z : Value} (h : MapZ prog t k z) : ∃ e, prog.underlying t = some (.map k e) /\ ∀ w, (zeroValue e).run prog w = .ok z w := by
 obtain ⟨e, h1, h2⟩ := h.b
 cases hi : prog.info? e with
 | none => rw [hi] at h2; cases h2
 | some i =>
  rw [hi] at h2
  have h3 : i.zero = some z := h2
  exact ⟨e, h1, fun w => by simp [zeroValue, cP hi, h3]⟩
def BornOk (es : List MapEntry) (c : Nat) : Prop := (es.map (·.born)).Nodup /\ ∀ e ∈ es, e.born < c
def eX (r : Nat) (ks : List CK) (f : List Value -> Option Value) : ab := ex fun x : Array MapEntry × Nat => (aa (lift (MapOk ks x.1.toList f /\ BornOk x.1.toList x.2)) (blk r (.map x.1 x.2)))
variable {prog : Program} {σ : World} {n : Nat} {E : Env} {Pr R R' : ab} {Q : Exit -> Act -> World -> Prop}
variable {d : Option Nat} {ty : TypeId} {pos : String} {aft : Array Edge} {g : Option (Nat × Bool)} {x y z : Operand} {t kt : TypeId} {ks : List CK} {r : Nat} {f : List Value -> Option Value} {k : List Value} {v zv : Value}
theorem rt (h : Sat σ w (aa (eX r ks f) (R))) : ∃ es c, w.heap[r]? = some (.map es c) /\ MapOk ks es.toList f /\ BornOk es.toList c /\ Sat σ w (aa (blk r (.map es c)) (R)) := by
 obtain ⟨⟨es, c⟩, hx⟩ := sat_ex.1 h
 simp only [ak] at hx
 obtain ⟨h1, h2⟩ := sat_lift.1 hx
 exact ⟨es, c, h2.blk, h1.1, h1.2, h2⟩
theorem qi (h1 : MapOk ks es.toList f) (h2 : BornOk es.toList c) : Ent (blk r (.map es c)) (eX r ks f) :=
 Ent.trans (Ent.lift (p := MapOk ks es.toList f /\ BornOk es.toList c) ⟨h1, h2⟩) (bh (f := fun x : Array MapEntry × Nat => (aa (lift (MapOk ks x.1.toList f /\ BornOk x.1.toList x.2)) (blk r (.map x.1 x.2)))) (es, c))
theorem mT [hm : MapZ prog t kt zv] [EqT prog kt ks] (hk : Shape ks k) (hs : Sat σ w (aa (eX r ks f) (R))) (c : Bool) :
  (Instr.lookup t (.map (some r)) (.agg k.toArray) c).run prog w = .ok (if c then .tuple #[(f k).getD zv, .bool (f k).isSome] else (f k).getD zv) w := by
 obtain ⟨e, h1, h2⟩ := hm.spec
 obtain ⟨es, clk, hb, ho, _⟩ := rt hs
 have hck := iY (prog := prog) (t := kt) hk es.isEmpty w
 rcases gJ (prog := prog) (t := kt) hk w ho with ⟨h3, h4, _⟩ | ⟨j, e', h3, _, _, h4⟩
 ·simp [Instr.lookup, run_underlying h1, run_getObj_map w r es clk hb, hck, h3, h4, h2 w]
 ·simp [Instr.lookup, run_underlying h1, run_getObj_map w r es clk hb, hck, h3, h4]
theorem lE {d : Nat} (ks : List CK) (hd : Nat.blt d n = true) :
  OpX prog σ n E Pr ⟨some d, .makeMap t none, ty, pos, aft, g⟩ (fun _ : Nat => True) (fun r => (d, .map (some r)) :: E) (fun r => (aa (eX r ks (fun _ => none)) (Pr))) := by
 refine bI rfl hd fun a w ha hs => ?_
 refine ⟨w.heap.size, w.alloc (.map #[] 0), trivial, ?_, ?_⟩
 ·have h1 : (Instr.makeMap t none).run prog w = .ok (.map (some w.heap.size)) (w.alloc (.map #[] 0)) := rfl
  simp only [execOp, Option.map_none, Sem.run_bind, h1, Result.andThen_ok, Sem.run_pure]
 ·exact (hs.alloc (.map #[] 0)).ent ((qi ⟨fun e he => by simp at he, by simp, fun k v => by simp⟩ ⟨by simp, fun e he => by simp at he⟩).frame _)
theorem wP {es' : Array MapEntry} {c' : Nat} {f' : List Value -> Option Value} (h : Sat σ w (aa (blk r (.map es c)) (R))) (ho : MapOk ks es'.toList f') (hb' : BornOk es'.toList c') : Sat σ { w with heap := w.heap.setIfInBounds r (.map es' c') } (aa (eX r ks f') (R)) := by
 have hb := h.blk
 have hlt : r < w.heap.size := by
  rcases Nat.lt_or_ge r w.heap.size with hl | hl
  ·exact hl
  ·rw [Array.getElem?_eq_none hl] at hb; cases hb
 have h1 := h.update (w' := { w with heap := w.heap.setIfInBounds r (.map es' c') }) (o' := .map es' c') rfl rfl rfl (by simp [hlt]) (fun k hk => by
  show (w.heap.setIfInBounds r _)[k]? = _
  rw [Array.getElem?_setIfInBounds, if_neg (fun e => hk e.symm)])
 exact h1.ent ((qi ho hb').frame _)
theorem BornOk.push {es : List MapEntry} (h : BornOk es c) (e : MapEntry) (he : e.born = c) : BornOk (es ++ [e]) (c + 1) := by
 refine ⟨?_, fun x hx => ?_⟩
 ·rw [List.map_append, List.nodup_append]
  refine ⟨h.1, by simp, fun a ha b hb => ?_⟩
  obtain ⟨e', he', rfl⟩ := List.mem_map.1 ha
  simp only [List.map_cons, List.map_nil, List.mem_singleton] at hb
  have := h.2 e' he'
  omega
 ·rcases List.mem_append.1 hx with hx | hx
  ·have := h.2 x hx; omega
  ·rw [List.mem_singleton.1 hx]; omega
theorem BornOk.modify {es : List MapEntry} {j : Nat} (h : BornOk es c) (g : MapEntry -> MapEntry) (hg : ∀ e, (g e).born = e.born) : BornOk (es.modify j g) c := by
 have e1 : (es.modify j g).map (·.born) = es.map (·.born) := by
  refine List.ext_getElem? fun i => ?_
  rw [List.getElem?_map, List.getElem?_map, List.getElem?_modify]
  by_cases hij : j = i
  ·subst hij; cases es[j]? <;> simp [hg]
  ·simp [hij]
 refine ⟨by rw [e1]; exact h.1, fun e he => ?_⟩
 have : e.born ∈ (es.modify j g).map (·.born) := List.mem_map.2 ⟨e, he, rfl⟩
 rw [e1] at this
 obtain ⟨e', he', h2⟩ := List.mem_map.1 this
 have := h.2 e' he'
 omega
end
section
variable {prog : Program} {σ : World} {n : Nat} {E : Env} {P : ab}
class Conc (prog : Program) (t : TypeId) : Prop where
 b : i2 prog t (fun | .interface _ => false | _ => true) = true
theorem kB {d : Option Tmp} {ty : TypeId} {pos : String} {aft : Array Edge} {g : Option (Nat × Bool)} {x : Operand} {t : TypeId} {v : Value} [hc : Conc prog t] (hx : ev E x = some v) : OpV prog σ n E P ⟨d, .makeInterface t x, ty, pos, aft, g⟩ (.iface t v) := by
 unfold OpV
 exact fun _ w ha _ => by
  obtain ⟨dd, hd, h1⟩ := cM hc.b
  simp only [execOp, ha.ev hx, Instr.makeInterface, Sem.run_bind, ba hd, Result.andThen_ok]
  cases dd <;> first | rfl | cases h1
end
section
attribute [local instance] Classical.propDecidable
variable {α : Type} {p q : Bool} {k : IntKind} {w : World}
variable {prog : Program} {σ : World} {n : Nat} {Q : Exit -> Act -> World -> Prop} {E E' : Env} {P P' R F : ab} {ops : Array Oper} {rest : List Oper}
def kX (prog : Program) (c : Code) (Q : Exit -> Act -> World -> Prop) (a : Act) (w : World) : Prop :=
 ∀ (b : Frame) (k : List Item) (cs : List Frame), ∃ e a' w', Q e a' w' /\ Arrives prog (lone (b.at a (.code c :: .inLoop c :: k)) cs w) b k cs e a' w'
def JU (prog : Program) (σ : World) (n : Nat) (c : Code) (Q : Exit -> Act -> World -> Prop) (E : Env) (P : ab) : Prop := ∀ a w, Agree n E a -> Sat σ w P -> kX prog c Q a w
theorem qV {c : Code} (h : JU prog σ n c Q E P) : J prog σ n (.loop c) Q E P := fun a w ha hw b k cs =>
 let ⟨e, a', w', hq, harr⟩ := h a w ha hw b k cs
 ⟨e, a', w', hq, .of_steps (.one step_loop) harr⟩
theorem j3 {c : Code} (h : J prog σ n c (Exit.then (kX prog c Q) Q) E P) : JU prog σ n c Q E P := fun a w ha hw b k cs => by
 obtain ⟨e, a₁, w₁, hq, harr⟩ := h a w ha hw b (.inLoop c :: k) cs
 cases e with
 | normal =>
  obtain ⟨e₂, a₂, w₂, hq₂, harr₂⟩ := hq b k cs
  exact ⟨e₂, a₂, w₂, hq₂, .of_steps (Steps.trans harr (.one step_inLoop)) harr₂⟩
 | exit id => exact ⟨_, a₁, w₁, hq, .pass (x := .inLoop c) rfl (fun _ _ => .inl (by simp)) harr⟩
 | goto l => exact ⟨_, a₁, w₁, hq, .pass (x := .inLoop c) rfl (fun _ _ => .inl (by simp)) harr⟩
 | ret => exact ⟨_, a₁, w₁, hq, .pass (x := .inLoop c) rfl (fun _ _ => .inl (by simp)) harr⟩
 | panic ch => exact ⟨_, a₁, w₁, hq, .pass (x := .inLoop c) rfl (fun _ _ => .inl (by simp)) harr⟩
 | outgrown => exact ⟨_, a₁, w₁, hq, .pass (x := .inLoop c) rfl (fun _ _ => .inl (by simp)) harr⟩
theorem qT {c : Code} (h : JU prog σ n c Q E P) : K σ n (Exit.then (kX prog c Q) Q) .normal E P := fun a w ha hw => h a w ha hw
class AppL {α : Type} (l r : List α) (s : outParam (List α)) : Prop where
 eq : l ++ r = s
instance {r : List α} : AppL [] r r := ⟨rfl⟩
instance {x : α} {l r s : List α} [h : AppL l r s] : AppL (x :: l) r (x :: s) := ⟨by rw [List.cons_append, h.eq]⟩
class DropL {α : Type} (l : List α) (k : Nat) (s : outParam (List α)) : Prop where
 eq : l.drop k = s
def vi : BinOp -> IntKind -> Int -> Int -> Option Value
 | .add, k, a, b => some (.int k (k.wrap (a + b)))
 | .sub, k, a, b => some (.int k (k.wrap (a - b)))
 | .mul, k, a, b => some (.int k (k.wrap (a * b)))
 | .quo, k, a, b => if b = 0 then none else some (.int k (k.wrap (a.tdiv b)))
 | .rem, k, a, b => if b = 0 then none else some (.int k (a.tmod b))
 | .eql, _, a, b => some (.bool (decide (a = b)))
 | .neq, _, a, b => some (.bool (decide (a ≠ b)))
 | .lss, _, a, b => some (.bool (decide (a < b)))
 | .leq, _, a, b => some (.bool (decide (a <= b)))
 | .gtr, _, a, b => some (.bool (decide (b < a)))
 | .geq, _, a, b => some (.bool (decide (b <= a)))
 | _, _, _, _ => none
section
variable {d : Option Tmp} {ty : TypeId} {pos : String} {aft : Array Edge} {g : Option (Nat × Bool)} {x y z : Operand} {t t' : TypeId} {k k' : IntKind} {a b : Int} {v u c : Value}
theorem ei {op : BinOp} (hx : ev E x = some (.int k a)) (hy : ev E y = some (.int k b)) (h : vi op k a b = some c) : OpV prog σ n E P ⟨d, .binOp op t x y t', ty, pos, aft, g⟩ c := by
  cases op <;> simp only [vi, Option.some.injEq, reduceCtorEq] at h <;> first
    | (subst h; first | exact fI hx hy | exact p7 hx hy | exact p9 hx hy | exact cv hx hy | exact bs hx hy | exact aM hx hy | exact fh hx hy | exact bt hx hy | exact dt hx hy)
    | (split at h
       . cases h
       . simp only [Option.some.injEq] at h
         subst h
         first | exact p8 hx hy (by assumption) | exact dA hx hy (by assumption))
theorem eQ {src dst : TypeId} [IntT prog src k] [IntT prog dst k'] (hx : ev E x = some (.int k a)) (h : Value.int k' (k'.wrap a) = c) : OpV prog σ n E P ⟨d, .convert src dst x, ty, pos, aft, g⟩ c := h ▸ dX hx
theorem kP (hx : ev E x = some (.bool p)) (h : (!p) = q) : OpV prog σ n E P ⟨d, .unOp .not t x, ty, pos, aft, g⟩ (.bool q) := h ▸ fF hx
theorem xf (hx : ev E x = some (.bool p)) (hv : ev E (bif p then y else z) = some v) : OpV prog σ n E P ⟨d, .pick x y z, ty, pos, aft, g⟩ v := by
 cases p
 ·exact fun _ w ha _ => by simp [execOp, ha.ev hx, asBool, ha.ev (show ev E z = some v from hv)]
 ·exact de hx hv
theorem xg {r : Bool} [BoolT prog t] (hx : ev E x = some (.bool p)) (hy : ev E y = some (.bool q)) (h : (p != q) = r) : OpV prog σ n E P ⟨d, .binOp .neq t x y t', ty, pos, aft, g⟩ (.bool r) := h ▸ nQ hx hy
theorem Ck {p : Option Addr} {r : Bool} [PtrT prog t] (hx : ev E x = some (.pointer p)) (hy : ev E y = some (.pointer none)) (h : p.isNone = r) : OpV prog σ n E P ⟨d, .binOp .eql t x y t', ty, pos, aft, g⟩ (.bool r) := h ▸ bj hx hy
theorem Ci {p : Option Addr} {r : Bool} [PtrT prog t] (hx : ev E x = some (.pointer p)) (hy : ev E y = some (.pointer none)) (h : p.isSome = r) : OpV prog σ n E P ⟨d, .binOp .neq t x y t', ty, pos, aft, g⟩ (.bool r) := h ▸ fO hx hy
end
class MapI (prog : Program) (t : TypeId) (k : outParam IntKind) (z : outParam Value) : Prop where
 b : ∃ kt e, prog.underlying t = some (.map kt e) /\ prog.underlying kt = some (.int k) /\ (prog.info? e).bind (·.zero) = some z
theorem MapI.spec {t : TypeId} {z : Value} (h : MapI prog t k z) : ∃ kt e, prog.underlying t = some (.map kt e) /\ prog.underlying kt = some (.int k) /\ ∀ w, (zeroValue e).run prog w = .ok z w := by
 obtain ⟨kt, e, h1, h0, h2⟩ := h.b
 cases hi : prog.info? e with
 | none => rw [hi] at h2; cases h2
 | some i =>
  rw [hi] at h2
  have h3 : i.zero = some z := h2
  exact ⟨kt, e, h1, h0, fun w => by simp [zeroValue, cP hi, h3]⟩
section
variable {d : Option Nat} {ty : TypeId} {pos : String} {aft : Array Edge} {g : Option (Nat × Bool)} {x y z : Operand} {t : TypeId} {r clk : Nat} {k : IntKind} {m : Int} {zv v u : Value} {es es' : List MapEntry} {fo : Option (Nat × Value)}
theorem lt {es es' : Array MapEntry} {c c' : Nat} (h : Sat σ w (aa (blk r (.map es c)) (R))) : Sat σ { w with heap := w.heap.setIfInBounds r (.map es' c') } (aa (blk r (.map es' c')) (R)) := by
 have hb := h.blk
 have hlt : r < w.heap.size := by
  rcases Nat.lt_or_ge r w.heap.size with hl | hl
  ·exact hl
  ·rw [Array.getElem?_eq_none hl] at hb; cases hb
 exact h.update (w' := { w with heap := w.heap.setIfInBounds r (.map es' c') }) (o' := .map es' c') rfl rfl rfl (by simp [hlt]) (fun k hk => by
  show (w.heap.setIfInBounds r _)[k]? = _
  rw [Array.getElem?_setIfInBounds, if_neg (fun e => hk e.symm)])
theorem vg {m : Int} : (Instr.keyThatStays (.int k m) (.int k m)).run prog w = .ok (.int k m) w := by
 unfold Instr.keyThatStays
 rw [if_pos (by simp [Instr.sameBits])]
 rfl
end
end
section
attribute [local instance] Classical.propDecidable
variable {b o m len cap e q : Nat} {l : List Value} {A P R : ab}
variable {prog : Program} {σ : World} {n : Nat} {Q : Exit -> Act -> World -> Prop} {E E' : Env} {P P' R F : ab} {ops : Array Oper} {rest : List Oper}
section
variable {d : Option Tmp} {ty : TypeId} {pos : String} {aft : Array Edge} {g : Option (Nat × Bool)} {x y z : Operand} {t t' : TypeId} {k k' : IntKind} {a : Int} {v u c : Value}
theorem i9 {f off : Nat} (q : Nat) [Fld prog t f off m] (hx : ev E x = some (.pointer (some (ad b o)))) (h : o + off = q) : OpV prog σ n E P ⟨d, .fieldAddr t x f, ty, pos, aft, g⟩ (.pointer (some (ad b q))) := h ▸ gD hx
theorem dx (q : Nat) [Slc prog t e m] (hx : ev E x = some (.slice (some (ad b o)) len cap)) (hy : ev E y = some (.int k a)) (h0 : decide (0 <= a /\ a < len) = true) (h : o + a.toNat * m = q) :
 OpV prog σ n E P ⟨d, .indexAddr t x y, ty, pos, aft, g⟩ (.pointer (some (ad b q))) := h ▸ au hx hy (of_decide_eq_true h0)
theorem bZ (q : Nat) [Arr prog t len e m] (hx : ev E x = some (.pointer (some (ad b o)))) (hy : ev E y = some (.int k a)) (h0 : decide (0 <= a /\ a < len) = true) (h : o + a.toNat * m = q) :
 OpV prog σ n E P ⟨d, .indexAddr t x y, ty, pos, aft, g⟩ (.pointer (some (ad b q))) := h ▸ aK hx hy (of_decide_eq_true h0)
theorem fG [Arr prog t len e 1] [One prog e] (hx : ev E x = some (.agg l.toArray)) (hy : ev E y = some (.int k a)) (h0 : decide (0 <= a /\ a < len) = true) (h : l[a.toNat]? = some v) :
  OpV prog σ n E P ⟨d, .index t x y, ty, pos, aft, g⟩ v := fun _ w ha _ => by
 obtain ⟨h1, i, h2, h3⟩ := Arr.spec (prog := prog) t len e 1
 obtain ⟨dd, i', h4, h5, h6, h7⟩ := One.spec (prog := prog) e
 obtain rfl : i = i' := Option.some.inj (h2.symm.trans h6)
 have h0 := of_decide_eq_true h0
 simp only [execOp, ha.ev hx, ha.ev hy, Instr.index, asIntOf, Sem.run_bind, Sem.run_pure, Result.andThen_ok, ba h1, Sem.run_ite, if_pos h0, bk h2, h3, Nat.mul_one, part, gr h4, h5, Bool.false_eq_true, if_false]
 simp [h]
end
class LookO (P : ab) (b o : Nat) (e m len c : outParam Nat) (l : outParam (List Value)) (R : outParam ab) : Prop where
 eq : P = (aa (Ow e m (.slice (some (ad b o)) len c) len l) (R))
instance (priority := 100) {c : Nat} [h : LookO P b o e m len c l R] : LookO (aa (A) (P)) b o e m len c l (aa (A) (R)) := ⟨by rw [h.eq, aR]⟩
instance (priority := 150) {B : ab} {c : Nat} [h : LookO (aa (A) (aa (B) (P))) b o e m len c l R] : LookO (aa ((aa (A) (B))) (P)) b o e m len c l R := ⟨by rw [ak]; exact h.eq⟩
instance (priority := 200) {c : Nat} : LookO (aa (Ow e m (.slice (some (ad b o)) len c) len l) (R)) b o e m len c l R := ⟨rfl⟩
instance (priority := 50) {c : Nat} : LookO (Ow e m (.slice (some (ad b o)) len c) len l) b o e m len c l emp := ⟨(cR _).symm⟩
theorem Rd.O {c j : Nat} {u : Value} [h : LookO P b o e m len c l R] (hj : l[j]? = some u) : Rd P b (o + j) u := fun σ w hs => by
 rw [h.eq] at hs
 exact Rd.own hj σ w hs.left
section
variable {d : Option Tmp} {ty : TypeId} {pos : String} {aft : Array Edge} {g : Option (Nat × Bool)} {x y z : Operand} {t t' : TypeId} {k k' : IntKind} {a : Int} {v u : Value}
theorem aF {c : Nat} (j : Nat) [One prog t] (hx : ev E x = some (.pointer (some (ad b q)))) [LookO P b o e m len c l R] (hq : o + j = q) (hj : l[j]? = some u) : OpV prog σ n E P ⟨d, .load t x, ty, pos, aft, g⟩ u :=
 ar (o := o + j) (by rw [hq]; exact hx) (Rd.O hj)
theorem bP {c mm : Nat} (j : Nat) {vs : List Value} [Agg prog t mm] (hx : ev E x = some (.pointer (some (ad b q)))) [LookO P b o e m len c l R] (hq : o + j = q) [hc : CutL l j mm vs] : OpV prog σ n E P ⟨d, .load t x, ty, pos, aft, g⟩ (.agg vs.toArray) :=
 br (o := o + j) (by rw [hq]; exact hx) hc.le fun i u hi => by
  rw [Nat.add_assoc]
  refine Rd.O ?_
  rw [<- hc.eq, List.getElem?_take] at hi
  split at hi
  ·rw [List.getElem?_drop] at hi; exact hi
  ·cases hi
theorem mv {lo : Operand} [Slc prog t e m] (hx : ev E x = some (.slice (some (ad b o)) len cap)) (hl : ev E lo = some (.int k a)) (h0 : decide (0 <= a /\ a <= len) = true) (q l' : Nat) (hq : a.toNat = q) (hl' : len - q = l') :
  OpV prog σ n E P ⟨d, .slice t x (some lo) none none, ty, pos, aft, g⟩ (.slice (some (ad b (if cap = q then o else o + q * m))) l' (cap - q)) := by
 have h := cZ (prog := prog) (σ := σ) (n := n) (P := P) (d := d) (ty := ty) (pos := pos) (aft := aft) (g := g) (t := t) hx hl (of_decide_eq_true h0)
 rwa [hq, iy, hl'] at h
theorem Ow.tail {c : Nat} {l2 : List Value} (q l' : Nat) (hl' : len - q = l') (hq : Nat.ble q len = true) {qm : Nat} (hqm : q * m = qm) [hdd : DropL l qm l2] : Ent (Ow e m (.slice (some (ad b o)) len c) len l) (Ow e m (.slice (some (ad b (if c = q then o else o + q * m))) l' (c - q)) l' l2) := by
 have hd : l.drop (q * m) = l2 := by rw [hqm]; exact hdd.eq
 rintro h ⟨r, hr⟩
 cases r with
 | nil => obtain ⟨⟨h1, _⟩, _⟩ := hr; cases h1
 | «at» b' cap pre post =>
  obtain ⟨h1, h2, hdis, hj, ⟨⟨g1, g2, g3, g4, g5⟩, ge⟩, hc⟩ := hr
  subst ge
  simp only [Value.slice.injEq, Option.some.injEq, Addr.mk.injEq] at g1
  obtain ⟨⟨rfl, rfl, _⟩, _, rfl⟩ := g1
  have hq := Nat.le_of_ble_eq_true hq
  have hh : h = h2 := by subst hj; funext k; simp [bW]
  subst hh
  have hlen : q * m <= l.length := by rw [g4]; exact Nat.mul_le_mul_right _ hq
  by_cases hcq : c = q
  ·rw [if_pos hcq]
   have e0 : len = q := by omega
   subst hcq
   have : l' = 0 := by omega
   subst this
   have hl2 : l2 = [] := by rw [<- hd]; exact List.drop_eq_nil_of_le (by rw [g4, e0]; exact Nat.le_refl _)
   subst hl2
   refine Ow.mk (b := b) (pre := pre) (post := l ++ post) (cap := 0) (by simp) (Nat.le_refl _) (Nat.zero_le _) (by simp) (by simp) h ?_
   simpa using hc
  ·rw [if_neg hcq]
   refine Ow.mk (b := b) (pre := pre ++ l.take (q * m)) (post := post) (cap := c - q) (by rw [List.length_append, List.length_take, Nat.min_eq_left hlen]) (by omega) (by omega) (by rw [<- hd, List.length_drop, g4, <- Nat.sub_mul, hl']) (by rw [show c - q - l' = c - len by omega]; exact g5) h ?_
   have : pre ++ l.take (q * m) ++ l2 ++ post = pre ++ l ++ post := by rw [<- hd, List.append_assoc pre, List.take_append_drop]
   rw [this]
   exact hc
end
section
variable {d : Nat} {x y : Operand} {t e m B len k : Nat} {ty : TypeId} {pos : String} {aft : Array Edge} {g : Option (Nat × Bool)} {zs l l' news : List Value} {u : Value}
theorem iL {w : World} {v : Value} (h : Sat σ w (aa (Ow e m v len l) (P))) (h0 : 0 < len) : ∃ b o c, v = .slice (some (ad b o)) len c := by
 rcases fg h with ⟨_, h2, _⟩ | ⟨b, cap, pre, post, h1, _⟩
 ·omega
 ·exact ⟨b, pre.length, cap, h1⟩
theorem dI {c : Nat} (q : Nat) [Slc prog t e m] [Zer prog e zs] [Byt prog e B] (hx : ev E x = some (.slice (some (ad b o)) len c)) (hy : ev E y = some u) [hT : LookO P b o e m len c l R]
  (hsrc : Src (aa (Ow e m (.slice (some (ad b o)) len c) len l) (R)) u k news) (hzl : zs.length = m) (hm : Nat.blt 0 m = true) (hl : news.length = k * m) (h1 : ∀ u ∈ news, u.oneCell' = true) (h63 : decide (0 < len + k /\ len + k <= 1000000) = true) (hB : decide (B <= 1000000) = true) (hq : len + k = q) [he : AppL l news l'] (hd : Nat.blt d n = true) :
  OpX prog σ n E P ⟨some d, .call ⟨.builtin .append, #[x, y], #[t, t]⟩, ty, pos, aft, g⟩ (fun _ : Nat × Nat × Nat => True) (fun r => (d, .slice (some (ad r.1 r.2.1)) q r.2.2) :: E) (fun r => (aa (Ow e m (.slice (some (ad r.1 r.2.1)) q r.2.2) q l') (R))) := by
 refine bI rfl hd fun a w ha hw => ?_
 rw [hT.eq] at hw
 have h63 := of_decide_eq_true h63
 have hB := of_decide_eq_true hB
 obtain ⟨A, c', w', hr, hs'⟩ := i3 (prog := prog) (t := t) (ty := ty) hzl (Nat.le_of_ble_eq_true hm) hw hsrc hl h1 (by unfold maxLen; omega) (Nat.le_trans (Nat.mul_le_mul h63.2 hB) (by decide))
 obtain ⟨b2, o2, c2, hv⟩ := iL hs' h63.1
 rw [hv, he.eq, hq] at hs'
 refine ⟨(b2, o2, c2), w', trivial, ?_, hs'⟩
 simp only [execOp, resolve, List.map_toArray, List.map_cons, List.map_nil, ha.ev hx, ha.ev hy, Sem.run_bind, Sem.run_pure, Result.andThen_ok, invoke, builtin, hr]
 rw [hv, hq]
theorem gB (q : Nat) [Slc prog t e m] [Zer prog e zs] [Byt prog e B] (hx : ev E x = some (.slice none 0 0)) (hy : ev E y = some u)
  (hsrc : Src P u k news) (hzl : zs.length = m) (hm : Nat.blt 0 m = true) (hl : news.length = k * m) (h1 : ∀ u ∈ news, u.oneCell' = true) (h63 : decide (0 < k /\ k <= 1000000) = true) (hB : decide (B <= 1000000) = true) (hq : k = q) (hd : Nat.blt d n = true) :
  OpX prog σ n E P ⟨some d, .call ⟨.builtin .append, #[x, y], #[t, t]⟩, ty, pos, aft, g⟩ (fun _ : Nat × Nat × Nat => True) (fun r => (d, .slice (some (ad r.1 r.2.1)) q r.2.2) :: E) (fun r => (aa (Ow e m (.slice (some (ad r.1 r.2.1)) q r.2.2) q news) (P))) := by
 refine bI rfl hd fun a w ha hw => ?_
 have h63 := of_decide_eq_true h63
 have hB := of_decide_eq_true hB
 have hw' : Sat σ w (aa (Ow e m (.slice none 0 0) 0 []) (P)) := by
  have := hw.ent (Q := (aa (Ow e m (.slice none 0 0) 0 []) (P))) (by
   have h := (Ow.nil e m).frame P
   rwa [bN] at h)
  exact this
 have hsrc' : Src (aa (Ow e m (.slice none 0 0) 0 []) (P)) u k news := by
  rcases hsrc with h | ⟨b, o, c, h, hr⟩
  ·exact .inl h
  ·exact .inr ⟨b, o, c, h, fun j u hj σ w hs => hr j u hj σ w (hs.ent Ent.drop)⟩
 obtain ⟨A, c', w', hr, hs'⟩ := i3 (prog := prog) (t := t) (ty := ty) hzl (Nat.le_of_ble_eq_true hm) hw' hsrc' hl h1 (by unfold maxLen; omega) (Nat.le_trans (Nat.mul_le_mul (show 0 + k <= 1000000 by omega) hB) (by decide))
 obtain ⟨b2, o2, c2, hv⟩ := iL hs' (by omega)
 rw [hv, List.nil_append, show 0 + k = q by omega] at hs'
 refine ⟨(b2, o2, c2), w', trivial, ?_, hs'⟩
 simp only [execOp, resolve, List.map_toArray, List.map_cons, List.map_nil, ha.ev hx, ha.ev hy, Sem.run_bind, Sem.run_pure, Result.andThen_ok, invoke, builtin, hr]
 rw [hv, show 0 + k = q by omega]
theorem Src.O {c : Nat} [h : LookO P b o e m len c l R] : Src P (.slice (some (ad b o)) len c) len l := .inr ⟨b, o, c, rfl, fun _ _ hj => Rd.O hj⟩
end
end
end Go.SLA
