/- The book of addresses as what is known of each address; it is used by the texts that import this one. -/
import Derived.Test.YtkkoepnljofhpaaDoorAz
import Derived.Test.YtkkoepnljofhpaaDoorH
namespace Go.Proofs.YtkkoepnljofhpaaDoor
open Go.SLA
set_option maxRecDepth 100000
set_option linter.unusedVariables false
set_option linter.unusedSimpArgs false
attribute [local irreducible] J L K QL Rg FSpec OpV OpX Rd Back

attribute [local instance] Classical.propDecidable
noncomputable def gput (g : List Nat → Option Int) (l : List Nat) (n : Int) : List Nat → Option Int := fun l' => if l' = l then some n else g l'
noncomputable def gdel (g : List Nat → Option Int) (l : List Nat) : List Nat → Option Int := fun l' => if l' = l then none else g l'
theorem gput_same (g : List Nat → Option Int) (l : List Nat) (n : Int) : gput g l n l = some n := if_pos rfl
theorem gput_other {g : List Nat → Option Int} {l l' : List Nat} {n : Int} (h : l' ≠ l) : gput g l n l' = g l' := if_neg h
theorem gdel_same (g : List Nat → Option Int) (l : List Nat) : gdel g l l = none := if_pos rfl
theorem gdel_other {g : List Nat → Option Int} {l l' : List Nat} (h : l' ≠ l) : gdel g l l' = g l' := if_neg h
/-- A map's function stands for what is known of addresses. -/
structure Rep (f : List Value → Option Value) (g : List Nat → Option Int) (S : List (List Nat)) : Prop where
  at_ : ∀ l, Bys 6 l → f (l.map enc8) = (g l).map (fun n => .int .i64 n)
  ok : KeysOk f (S.map (·.map enc8))
  byt : ∀ l n, g l = some n → Bys 6 l
def bookC (b : Nat) (g : List Nat → Option Int) (S : List (List Nat)) : Option (Nat × (List Value → Option Value)) → HProp
  | none => (sep (lift (g = fun _ => none)) (cel b [.map none] 60))
  | some x => (sep (lift (Rep x.2 g S)) (sep (mapq x.1 ks6 x.2) (cel b [.map (some x.1)] 60)))
def BookQ (b : Nat) (g : List Nat → Option Int) (S : List (List Nat)) : HProp := ex (bookC b g S)
theorem BookQ.none_ {b : Nat} {S : List (List Nat)} : Ent (cel b [.map none] 60) (BookQ b (fun _ => none) S) := Ent.trans (Ent.lift rfl) (Ent.exo (f := bookC b (fun _ => none) S) none)
theorem BookQ.some_ {b r : Nat} {f : List Value → Option Value} {g : List Nat → Option Int} {S : List (List Nat)} (h : Rep f g S) : Ent (sep (mapq r ks6 f) (cel b [.map (some r)] 60)) (BookQ b g S) := Ent.trans (Ent.lift h) (Ent.exo (f := bookC b g S) (some (r, f)))
theorem FSpec.book {X : Type} {fn : FuncId} {args : Array Value} {b : Nat} {g : List Nat → Option Int} {S : List (List Nat)} {φ : X → Prop} {val : X → Value} {Qo : X → HProp} (h0 : g = (fun _ => none) → FSpec Tryd.prog fn args (cel b [.map none] 60) φ val Qo)
    (h1 : ∀ r f, Rep f g S → FSpec Tryd.prog fn args (sep (mapq r ks6 f) (cel b [.map (some r)] 60)) φ val Qo) : FSpec Tryd.prog fn args (BookQ b g S) φ val Qo :=
  FSpec.ex fun y => match y with
    | none => FSpec.lifts fun h => h0 h
    | some (r, f) => FSpec.lifts fun h => h1 r f h
theorem Rep.put {f : List Value → Option Value} {g : List Nat → Option Int} {S : List (List Nat)} (h : Rep f g S) {l : List Nat} (hb : Bys 6 l) (n : Int) : Rep (mput f (l.map enc8) (.int .i64 n)) (gput g l n) (l :: S) := by
  refine ⟨fun l' hb' => ?_, ⟨fun k v hk => ?_, fun k v hk => ?_⟩, fun l' n' hl => ?_⟩
  · by_cases e : l' = l
    · subst e; rw [mput_same, gput_same]; rfl
    · rw [mput_other (fun he => e (map8_inj he)), gput_other e, h.at_ l' hb']
  · by_cases e : k = l.map enc8
    · exact ⟨l, hb, e⟩
    · rw [mput_other e] at hk; exact h.ok.key k v hk
  · by_cases e : k = l.map enc8
    · rw [e]; exact List.mem_cons_self
    · rw [mput_other e] at hk; exact List.mem_cons_of_mem _ (h.ok.sub k v hk)
  · by_cases e : l' = l
    · rw [e]; exact hb
    · rw [gput_other e] at hl; exact h.byt l' n' hl
theorem Rep.zero {S : List (List Nat)} : Rep (fun _ => none) (fun _ => none) S := ⟨fun _ _ => rfl, ⟨fun k v h => (by cases h), fun k v h => (by cases h)⟩, fun l n h => (by cases h)⟩
theorem Rep.del {f : List Value → Option Value} {g : List Nat → Option Int} {S : List (List Nat)} (h : Rep f g S) (l : List Nat) : Rep (mdel f (l.map enc8)) (gdel g l) S := by
  refine ⟨fun l' hb' => ?_, ⟨fun k v hk => ?_, fun k v hk => ?_⟩, fun l' n' hl => ?_⟩
  · by_cases e : l' = l
    · subst e; rw [mdel_same, gdel_same]; rfl
    · rw [mdel_other (fun he => e (map8_inj he)), gdel_other e, h.at_ l' hb']
  · by_cases e : k = l.map enc8
    · rw [e, mdel_same] at hk; cases hk
    · rw [mdel_other e] at hk; exact h.ok.key k v hk
  · by_cases e : k = l.map enc8
    · rw [e, mdel_same] at hk; cases hk
    · rw [mdel_other e] at hk; exact h.ok.sub k v hk
  · by_cases e : l' = l
    · rw [e, gdel_same] at hl; cases hl
    · rw [gdel_other e] at hl; exact h.byt l' n' hl
theorem gdel_none (l : List Nat) : gdel (fun _ => none) l = fun _ => none := by
  funext l'
  unfold gdel
  split <;> rfl
theorem Rep.val {f : List Value → Option Value} {g : List Nat → Option Int} {S : List (List Nat)} (h : Rep f g S) {l : List Nat} (hb : Bys 6 l) : Value.tuple #[(f (l.map enc8)).getD (.int .i64 0), .bool (f (l.map enc8)).isSome] = .tuple #[.int .i64 ((g l).getD 0), .bool (g l).isSome] := by
  rw [h.at_ l hb]
  cases g l <;> rfl
theorem Get_q (b : Nat) (g : List Nat → Option Int) (S : List (List Nat)) (l : List Nat) (hb : Bys 6 l) : FSpec Tryd.prog 30 #[.pointer (some (ad b 0)), ag l] (BookQ b g S) (fun _ : Unit => True) (fun _ => .tuple #[.int .i64 ((g l).getD 0), .bool (g l).isSome]) (fun _ => BookQ b g S) := by
  refine FSpec.book (fun hg => ?_) (fun r f hr => ?_)
  · subst hg
    exact (Get_n b l hb).conseq (Ent.refl _) fun _ _ => ⟨(), trivial, rfl, BookQ.none_⟩
  · exact (Get_s b r f l hb).conseq (Ent.of (sep_comm _ _)) fun _ _ => ⟨(), trivial, hr.val hb, Ent.trans (Ent.of (sep_comm _ _)) (BookQ.some_ hr)⟩
theorem Put_q (b : Nat) (g : List Nat → Option Int) (S : List (List Nat)) (l : List Nat) (hb : Bys 6 l) (n : Int) : FSpec Tryd.prog 28 #[.pointer (some (ad b 0)), ag l, .int .i64 n] (BookQ b g S) (fun _ : Unit => True) (fun _ => .tuple #[.int .i64 ((g l).getD 0), .bool (g l).isSome]) (fun _ => BookQ b (gput g l n) (l :: S)) := by
  refine FSpec.book (fun hg => ?_) (fun r f hr => ?_)
  · subst hg
    exact (Put_n b n l hb).conseq (Ent.refl _) fun r _ => ⟨(), trivial, rfl, Ent.trans (Ent.of (sep_comm _ _)) (BookQ.some_ ((Rep.zero (S := S)).put hb n))⟩
  · exact (Put_s b r f n l hb).conseq (Ent.of (sep_comm _ _)) fun _ _ => ⟨(), trivial, hr.val hb, Ent.trans (Ent.of (sep_comm _ _)) (BookQ.some_ (hr.put hb n))⟩
theorem Drop_q (b : Nat) (g : List Nat → Option Int) (S : List (List Nat)) (l : List Nat) (hb : Bys 6 l) : FSpec Tryd.prog 32 #[.pointer (some (ad b 0)), ag l] (BookQ b g S) (fun _ : Unit => True) (fun _ => .bool (g l).isSome) (fun _ => BookQ b (gdel g l) S) := by
  refine FSpec.book (fun hg => ?_) (fun r f hr => ?_)
  · subst hg
    exact (Drop_n b l hb).conseq (Ent.refl _) fun _ _ => ⟨(), trivial, rfl, by rw [gdel_none]; exact BookQ.none_⟩
  · exact (Drop_s b r f l hb).conseq (Ent.of (sep_comm _ _)) fun _ _ => ⟨(), trivial, by rw [hr.at_ l hb]; cases g l <;> rfl, Ent.trans (Ent.of (sep_comm _ _)) (BookQ.some_ (hr.del l))⟩
/-- What All answers. -/
def AllG (g : List Nat → Option Int) (d : List M6) : Prop := d.Pairwise (fun a b => numM a.1 < numM b.1) ∧ ∀ m : M6, m ∈ d ↔ (g m.1).isSome = true
theorem All_q (b : Nat) (g : List Nat → Option Int) (S : List (List Nat)) (hS : S.length ≤ 1000) : FSpec Tryd.prog 34 #[.pointer (some (ad b 0))] (BookQ b g S) (fun y : Option Addr × Nat × List M6 => AllG g y.2.2 ∧ y.2.2.length ≤ 1000) (fun y => .slice y.1 y.2.2.length y.2.1)
    (fun y => (sep (BookQ b g S) (Own 23 6 (.slice y.1 y.2.2.length y.2.1) y.2.2.length (y.2.2.flatMap encM)))) := by
  refine FSpec.book (fun hg => ?_) (fun r f hr => ?_)
  · subst hg
    exact (All_n b).conseq (Ent.refl _) fun _ _ => ⟨(none, 0, []), ⟨⟨List.Pairwise.nil, fun m => ⟨fun h => (List.not_mem_nil h).elim, fun h => by cases h⟩⟩, Nat.zero_le _⟩, rfl, Ent.trans (Ent.of (sep_emp _).symm) (Ent.trans ((BookQ.none_).frame _) (Ent.frame_left (Own.nil _ _) _))⟩
  · exact (All_s b r f _ hr.ok (by rw [List.length_map]; exact hS)).conseq (Ent.refl _) fun y hy => ⟨y, ⟨⟨hy.1.1, fun m => by rw [hy.1.2 m, show encM m = m.1.map enc8 from rfl, hr.at_ m.1 m.2]; cases g m.1 <;> rfl⟩, hy.2⟩, rfl, Ent.trans (Ent.of (sep_assoc _ _ _).symm) ((BookQ.some_ hr).frame _)⟩
theorem AllG.nodup {g : List Nat → Option Int} {d : List M6} (h : AllG g d) : d.Nodup := h.1.imp fun hlt e => by rw [e] at hlt; exact Nat.lt_irrefl _ hlt
/-- One is gone. -/
theorem AllG.del {g : List Nat → Option Int} {d d2 : List M6} {l : List Nat} (hb : Bys 6 l) (h : AllG g d) (h2 : AllG (gdel g l) d2) (hl : (g l).isSome = true) : d2.length + 1 = d.length := by
  have hm : m6 l hb ∈ d := (h.2 _).2 hl
  have hn : m6 l hb ∉ d2 := fun hh => by
    have := (h2.2 _).1 hh
    rw [show (m6 l hb).1 = l from rfl, gdel_same] at this
    cases this
  have a := nodup_le (l := m6 l hb :: d2) (m := d) (List.nodup_cons.2 ⟨hn, h2.nodup⟩) (fun x hx => by
    rcases List.mem_cons.1 hx with rfl | hx
    · exact hm
    · have := (h2.2 x).1 hx
      by_cases e : x.1 = l
      · rw [e, gdel_same] at this; cases this
      · rw [gdel_other e] at this; exact (h.2 x).2 this)
  have b := nodup_le (l := d) (m := m6 l hb :: d2) h.nodup (fun x hx => by
    by_cases e : x.1 = l
    · have : x = m6 l hb := Subtype.ext e
      rw [this]; exact List.mem_cons_self
    · exact List.mem_cons_of_mem _ ((h2.2 x).2 (by rw [gdel_other e]; exact (h.2 x).1 hx)))
  rw [List.length_cons] at a b
  omega

end Go.Proofs.YtkkoepnljofhpaaDoor
