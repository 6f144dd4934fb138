/- The contract of the book's All, proved by a walk over its code; it is used by the texts that import this one. -/
import Derived.Test.YtkkoepnljofhpaaDoorAy
import Derived.Test.YtkkoepnljofhpaaDoorH
namespace Go.Proofs.YtkkoepnljofhpaaDoor
open Go.SLA
set_option maxRecDepth 100000
set_option linter.unusedVariables false
set_option linter.unusedSimpArgs false
attribute [local irreducible] J L K QL Rg FSpec OpV OpX Rd Back

attribute [local instance] Classical.propDecidable
def keyC (e : MapEntry) : List Value := match e.key with
  | .agg a => a.toList
  | _ => []
theorem nodup_le {α : Type} : ∀ {l m : List α}, l.Nodup → (∀ x ∈ l, x ∈ m) → l.length ≤ m.length
  | [], m, _, _ => Nat.zero_le _
  | x :: l, m, h, hs => by
    have hx := hs x List.mem_cons_self
    have hn := List.nodup_cons.1 h
    have ih := nodup_le (l := l) (m := m.erase x) hn.2 (fun y hy => (List.mem_erase_of_ne (fun e => hn.1 (by rw [← e]; exact hy))).2 (hs y (List.mem_cons_of_mem _ hy)))
    rw [List.length_erase_of_mem hx] at ih
    have := List.length_pos_of_mem hx
    rw [List.length_cons]
    omega
/-- The keys of a book are addresses, few of them. -/
structure KeysOk (f : List Value → Option Value) (S : List (List Value)) : Prop where
  key : ∀ k v, f k = some v → ∃ l, Bys 6 l ∧ k = l.map enc8
  sub : ∀ k v, f k = some v → k ∈ S
theorem key_of {f : List Value → Option Value} {S : List (List Value)} {es : List MapEntry} (hK : KeysOk f S) (ho : MapOk ks6 es f) {e : MapEntry} (he : e ∈ es) : ∃ l, Bys 6 l ∧ e.key = .agg (l.map enc8).toArray ∧ l.map enc8 ∈ S ∧ f (l.map enc8) = some e.val := by
  obtain ⟨k, hk, _⟩ := ho.sh e he
  have hf := (ho.iff k e.val).2 ⟨e, he, hk, rfl⟩
  obtain ⟨l, hl, rfl⟩ := hK.key k _ hf
  exact ⟨l, hl, hk, hK.sub _ _ hf, hf⟩
theorem es_len {f : List Value → Option Value} {S : List (List Value)} {es : List MapEntry} (hK : KeysOk f S) (ho : MapOk ks6 es f) : es.length ≤ S.length := by
  have := nodup_le (l := es.map (·.key)) (m := S.map fun k => Value.agg k.toArray) ho.nd (fun x hx => by
    obtain ⟨e, he, rfl⟩ := List.mem_map.1 hx
    obtain ⟨l, _, h2, h3, _⟩ := key_of hK ho he
    exact List.mem_map.2 ⟨_, h3, h2.symm⟩)
  rwa [List.length_map, List.length_map] at this
/-- The entries that a range has seen. -/
def Vis (es vis : List MapEntry) : Prop := (∀ e ∈ vis, e ∈ es) ∧ (vis.map (·.born)).Nodup
theorem Vis.len {es vis : List MapEntry} (h : Vis es vis) : vis.length ≤ es.length := by
  have := nodup_le (l := vis.map (·.born)) (m := es.map (·.born)) h.2 (fun x hx => by
    obtain ⟨e, he, rfl⟩ := List.mem_map.1 hx
    exact List.mem_map.2 ⟨e, h.1 e he, rfl⟩)
  rwa [List.length_map, List.length_map] at this
theorem Vis.snoc {es vis : List MapEntry} (h : Vis es vis) {e : MapEntry} (he : e ∈ es) (hn : e.born ∉ (vis.map (·.born)).toArray) : Vis es (vis ++ [e]) := by
  refine ⟨fun x hx => ?_, ?_⟩
  · rcases List.mem_append.1 hx with hx | hx
    · exact h.1 x hx
    · rw [List.mem_singleton.1 hx]; exact he
  · rw [List.map_append, List.nodup_append]
    refine ⟨h.2, by simp, fun a ha b hb => ?_⟩
    simp only [List.map_cons, List.map_nil, List.mem_singleton] at hb
    rw [hb]
    rintro rfl
    exact hn (by simpa using ha)
def leftN (es vis : List MapEntry) : Nat := (es.filter fun e => decide (e.born ∉ vis.map (·.born))).length
theorem leftN_lt {es vis : List MapEntry} {e : MapEntry} (he : e ∈ es) (hn : e.born ∉ (vis.map (·.born)).toArray) : leftN es (vis ++ [e]) < leftN es vis := by
  unfold leftN
  refine filter_lt (fun x : MapEntry => decide (x.born ∉ vis.map (·.born))) (fun x => decide (x.born ∉ (vis ++ [e]).map (·.born))) (fun x hx => ?_) e ?_ ?_ es he
  · have hx := of_decide_eq_true hx
    exact decide_eq_true (fun h => hx (by rw [List.map_append]; exact List.mem_append_left _ h))
  · exact decide_eq_true (fun h => hn (by simpa using h))
  · exact decide_eq_false (fun h => h (by simp))
def m6 (l : List Nat) (h : Bys 6 l) : M6 := ⟨l, h⟩
theorem vis_m6 : ∀ {vis : List MapEntry}, (∀ e ∈ vis, ∃ l, Bys 6 l ∧ e.key = .agg (l.map enc8).toArray) → ∃ ml : List M6, ml.map (fun m => Value.agg (encM m).toArray) = vis.map (·.key) ∧ vis.flatMap keyC = ml.flatMap encM ∧ vis.length = ml.length
  | [], _ => ⟨[], rfl, rfl, rfl⟩
  | e :: vis, h => by
    obtain ⟨ml, h1, h2, h3⟩ := vis_m6 (vis := vis) (fun x hx => h x (List.mem_cons_of_mem _ hx))
    obtain ⟨l, hl, hk⟩ := h e List.mem_cons_self
    refine ⟨m6 l hl :: ml, ?_, ?_, ?_⟩
    · rw [List.map_cons, List.map_cons, h1, hk]; rfl
    · rw [List.flatMap_cons, List.flatMap_cons, h2]
      unfold keyC
      rw [hk]; rfl
    · rw [List.length_cons, List.length_cons, h3]
theorem encM_inj {a b : M6} (h : encM a = encM b) : a = b := Subtype.ext (map8_inj h)
/-- What All answers. -/
def AllOk (f : List Value → Option Value) (d : List M6) : Prop := d.Pairwise (fun a b => numM a.1 < numM b.1) ∧ ∀ m : M6, m ∈ d ↔ (f (encM m)).isSome = true
theorem all_ok {f : List Value → Option Value} {S : List (List Value)} {es vis : List MapEntry} {ml d : List M6} (hK : KeysOk f S) (ho : MapOk ks6 es f) (hv : Vis es vis) (hn : ∀ e ∈ es, e.born ∈ (vis.map (·.born)).toArray) (hbo : (es.map (·.born)).Nodup)
    (hm : ml.map (fun m => Value.agg (encM m).toArray) = vis.map (·.key)) (hd : d.Perm ml) (hs : d.Pairwise (fun a b => numM a.1 ≤ numM b.1)) : AllOk f d := by
  have eqb : ∀ {e e' : MapEntry}, e ∈ es → e' ∈ es → e.born = e'.born → e = e' := fun {e e'} h1 h2 h => by
    obtain ⟨i, hi⟩ := List.getElem?_of_mem h1
    obtain ⟨j, hj⟩ := List.getElem?_of_mem h2
    have hij : i = j := by
      have l1 := (List.getElem?_eq_some_iff.1 hi).1
      have l2 := (List.getElem?_eq_some_iff.1 hj).1
      have e1 := (List.getElem?_eq_some_iff.1 hi).2
      have e2 := (List.getElem?_eq_some_iff.1 hj).2
      have hp := List.pairwise_iff_getElem.1 hbo
      rcases Nat.lt_trichotomy i j with hl | hl | hl
      · exact absurd (show (es.map (·.born))[i]'(by simpa using l1) = (es.map (·.born))[j]'(by simpa using l2) by rw [List.getElem_map, List.getElem_map, e1, e2]; exact h) (hp i j _ _ hl)
      · exact hl
      · exact absurd (show (es.map (·.born))[j]'(by simpa using l2) = (es.map (·.born))[i]'(by simpa using l1) by rw [List.getElem_map, List.getElem_map, e1, e2]; exact h.symm) (hp j i _ _ hl)
    subst hij
    exact Option.some.inj (hi.symm.trans hj)
  have allin : ∀ e ∈ es, e ∈ vis := fun e he => by
    have := hn e he
    obtain ⟨e', he', hb⟩ := List.mem_map.1 (show e.born ∈ vis.map (·.born) by simpa using this)
    rw [← eqb (hv.1 e' he') he hb]; exact he'
  have kn : (vis.map (·.key)).Nodup := by
    rw [List.Nodup, List.pairwise_map]
    have := List.pairwise_map.1 hv.2
    refine this.imp_of_mem fun {a b} ha hb hne hk => hne ?_
    obtain ⟨i, hi⟩ := List.getElem?_of_mem (hv.1 a ha)
    obtain ⟨j, hj⟩ := List.getElem?_of_mem (hv.1 b hb)
    have := nodup_key ho.nd hi hj hk
    subst this
    rw [Option.some.inj (hi.symm.trans hj)]
  have mn : ml.Nodup := by
    rw [← hm] at kn
    rw [List.Nodup, List.pairwise_map] at kn
    exact kn.imp fun h e => h (by rw [e])
  have dn := hd.nodup_iff.2 mn
  refine ⟨?_, fun m => ?_⟩
  · refine (hs.and dn).imp ?_
    rintro a b ⟨h1, h2⟩
    rcases Nat.lt_or_eq_of_le h1 with h | h
    · exact h
    · exact absurd (Subtype.ext (numM_inj a.2.2 b.2.2 (by rw [a.2.1, b.2.1]) h)) h2
  · rw [hd.mem_iff]
    constructor
    · intro hmm
      have : Value.agg (encM m).toArray ∈ vis.map (·.key) := by rw [← hm]; exact List.mem_map.2 ⟨m, hmm, rfl⟩
      obtain ⟨e, he, hk⟩ := List.mem_map.1 this
      rw [(ho.iff (encM m) e.val).2 ⟨e, hv.1 e he, hk, rfl⟩]; rfl
    · intro hf
      obtain ⟨v, hv'⟩ := Option.isSome_iff_exists.1 hf
      obtain ⟨e, he, hk, _⟩ := (ho.iff (encM m) v).1 hv'
      have : e.key ∈ ml.map (fun m => Value.agg (encM m).toArray) := by rw [hm]; exact List.mem_map.2 ⟨e, allin e he, rfl⟩
      obtain ⟨m', hm', hk'⟩ := List.mem_map.1 this
      rw [hk] at hk'
      rw [← encM_inj (agg_inj hk')]; exact hm'
theorem Sort_nil : FSpec Tryd.prog 43 #[.slice none 0 0, .func (.func 44) #[] #[]] emp (fun _ : Unit => True) (fun _ => .tuple #[]) (fun _ => emp) :=
  (Sort_own (.slice none 0 0) [] (by decide)).conseq (Own.nil _ _) fun _ _ => ⟨(), trivial, rfl, Ent.trans (Ent.of (emp_sep _).symm) Ent.left⟩

theorem All_n (b : Nat) : FSpec Tryd.prog 34 #[.pointer (some (ad b 0))] (cel b [.map none] 60) (fun _ : Unit => True) (fun _ => .slice none 0 0) (fun _ => cel b [.map none] 60) := by
  refine FSpec.enter' Tryd.func34 rfl Tryd.ntmps34 rfl fun σ F => ?_
  refine J_seq ?_
  refine J_region ?_
  refine L_v (opv_assign rfl) rfl ?_
  refine L_nil ?_
  refine K_then ?_
  refine J_seq ?_
  refine J_seq ?_
  refine J_region ?_
  refine L_v (opv_move rfl) rfl ?_
  first
    | refine L_v (opv_eql rfl rfl) rfl ?_
    | refine L_v (opv_eqlS rfl rfl) rfl ?_
    | refine L_v (opv_eqlNil rfl rfl) rfl ?_
    | refine L_v (opv_eqlB rfl rfl) rfl ?_
  refine L_nil ?_
  refine K_then ?_
  refine J_cond_false rfl ?_
  refine J_skip ?_
  refine K_then ?_
  refine J_seq ?_
  refine J_region ?_
  refine L_v (opv_assign rfl) rfl ?_
  refine L_nil ?_
  refine K_then ?_
  refine J_seq ?_
  refine J_seq ?_
  refine J_region ?_
  refine L_v (opv_move rfl) rfl ?_
  refine L_v (opv_nilCheck rfl) rfl ?_
  first
    | refine L_v (opv_fieldAddr0 rfl) rfl ?_
    | refine L_v (opv_fieldAddr rfl) rfl ?_
  refine L_v (opv_load rfl (Rd.look rfl)) rfl ?_
  refine L_x rfl (opx_rangeN undM rfl rfl) (fun it11 _ => ?_)
  refine L_nil ?_
  refine K_then ?_
  refine J_block ?_
  refine J_loop (X := Unit) (fun _ => [(3, .slice none 0 0), (11, .pointer (some (ad it11 0)))]) (fun _ => (sep (blk it11 (.mapIter none 0 #[] 0)) (sep (cel b [.map none] 60) (F)))) (fun _ => True) (fun _ => 0) (()) trivial ⟨rfl, rfl, trivial⟩ Ent.take (fun _ _ => ?_)
  refine J_seq ?_
  refine J_region ?_
  refine L_v (opv_nextN (it := it11) (a := 0) (b := 0) (s := #[]) rfl) rfl ?_
  refine L_v (opv_extract rfl rfl) rfl ?_
  refine L_nil ?_
  refine K_then ?_
  refine J_seq ?_
  refine J_cond_false rfl ?_
  refine J_exit ?_
  refine K_then_exit ?_
  refine K_then_exit ?_
  refine K_block_here ?_
  refine K_then ?_
  refine J_seq ?_
  refine J_region ?_
  refine L_v (opv_move rfl) rfl ?_
  refine L_x rfl (opx_call0 (Sort_nil) rfl rfl rfl) (fun _ _ => ?_)
  refine L_emp ?_
  refine L_nil ?_
  refine K_then ?_
  refine J_seq ?_
  refine J_region ?_
  refine L_v (opv_move rfl) rfl ?_
  refine L_v (opv_assign rfl) rfl ?_
  refine L_nil ?_
  refine K_then ?_
  refine J_ret ?_
  exact K_ret1 rfl rfl () trivial (rfl) Ent.take

set_option maxHeartbeats 1000000 in
theorem All_s (b r : Nat) (f : List Value → Option Value) (S : List (List Value)) (hK : KeysOk f S) (hS : S.length ≤ 1000) : FSpec Tryd.prog 34 #[.pointer (some (ad b 0))] ((sep (mapq r ks6 f) (cel b [.map (some r)] 60))) (fun y : Option Addr × Nat × List M6 => AllOk f y.2.2 ∧ y.2.2.length ≤ 1000) (fun y => .slice y.1 y.2.2.length y.2.1) (fun y => (sep (mapq r ks6 f) (sep (cel b [.map (some r)] 60) (Own 23 6 (.slice y.1 y.2.2.length y.2.1) (y.2.2.length) (y.2.2.flatMap encM))))) := by
  refine FSpec.enter' Tryd.func34 rfl Tryd.ntmps34 rfl fun σ F => ?_
  refine J_eq _ (sep_assoc _ _ _) ?_
  refine J_mapq fun es clk ho hbo => ?_
  refine J_imp (sep (Own 23 6 (.slice none 0 0) (0) ([])) (sep (blk r (.map es clk)) (sep (cel b [.map (some r)] 60) (F)))) (Ent.trans (Ent.of (emp_sep _).symm) ((Own.nil 23 6).frame _)) ?_
  refine J_seq ?_
  refine J_region ?_
  refine L_v (opv_assign rfl) rfl ?_
  refine L_nil ?_
  refine K_then ?_
  refine J_seq ?_
  refine J_seq ?_
  refine J_region ?_
  refine L_v (opv_move rfl) rfl ?_
  first
    | refine L_v (opv_eql rfl rfl) rfl ?_
    | refine L_v (opv_eqlS rfl rfl) rfl ?_
    | refine L_v (opv_eqlNil rfl rfl) rfl ?_
    | refine L_v (opv_eqlB rfl rfl) rfl ?_
  refine L_nil ?_
  refine K_then ?_
  refine J_cond_false rfl ?_
  refine J_skip ?_
  refine K_then ?_
  refine J_seq ?_
  refine J_region ?_
  refine L_v (opv_assign rfl) rfl ?_
  refine L_nil ?_
  refine K_then ?_
  refine J_seq ?_
  refine J_seq ?_
  refine J_region ?_
  refine L_v (opv_move rfl) rfl ?_
  refine L_v (opv_nilCheck rfl) rfl ?_
  first
    | refine L_v (opv_fieldAddr0 rfl) rfl ?_
    | refine L_v (opv_fieldAddr rfl) rfl ?_
  refine L_v (opv_load rfl (Rd.look rfl)) rfl ?_
  refine L_x rfl (opx_rangeM (es := es) (clk := clk) undM rfl rfl) (fun it11 _ => ?_)
  refine L_nil ?_
  refine K_then ?_
  refine J_block ?_
  refine J_loop (X := List MapEntry × Option Addr × Nat) (fun z => [(3, .slice z.2.1 z.1.length z.2.2), (11, .pointer (some (ad it11 0)))]) (fun z => (sep (blk it11 (.mapIter (some r) clk ((z.1.map (·.born)).toArray) clk)) (sep (blk r (.map es clk)) (sep (Own 23 6 (.slice z.2.1 z.1.length z.2.2) (z.1.length) (z.1.flatMap keyC)) (sep (cel b [.map (some r)] 60) (F)))))) (fun z => Vis es.toList z.1) (fun z => leftN es.toList z.1) (([], none, 0)) ⟨by simp, by simp⟩ ⟨rfl, rfl, trivial⟩ (by show Ent _ (sep (blk it11 (.mapIter (some r) clk (#[]) clk)) (sep (blk r (.map es clk)) (sep (Own 23 6 (.slice none 0 0) (0) ([])) (sep (cel b [.map (some r)] 60) (F))))); exact Ent.take) (fun z hz => ?_)
  have hzl := hz.len
  have hel := es_len hK ho
  refine J_seq ?_
  refine J_region ?_
  refine L_x rfl (opx_nextM (es := es) (clk := clk) (r := r) (seen := (z.1.map (·.born)).toArray) hbo rfl rfl) (fun o ho2 => ?_)
  refine L_v (opv_extract (v := .bool o.isSome) rfl (by cases o <;> rfl)) rfl ?_
  refine L_nil ?_
  refine K_then ?_
  refine J_seq ?_
  refine J_cond_bool rfl (fun h1 => ?_) (fun h1 => ?_)
  · obtain ⟨e, rfl⟩ := Option.isSome_iff_exists.1 h1
    obtain ⟨l, hl, hkk, _, _⟩ := key_of hK ho ho2.1
    have hq1 : ((z.1 ++ [e]).map (·.born)).toArray = (z.1.map (·.born)).toArray.push e.born := by simp
    have hq2 : (z.1 ++ [e]).flatMap keyC = z.1.flatMap keyC ++ l.map enc8 := by rw [List.flatMap_append]; congr 1; simp [keyC, hkk]
    have hq3 : (z.1 ++ [e]).length = z.1.length + 1 := by simp
    refine J_eq (sep (blk it11 (.mapIter (some r) clk ((z.1.map (·.born)).toArray.push e.born) clk)) (sep (blk r (.map es clk)) (sep (Own 23 6 (.slice z.2.1 z.1.length z.2.2) (z.1.length) (z.1.flatMap keyC)) (sep (cel b [.map (some r)] 60) (F))))) rfl ?_
    refine J_skip ?_
    refine K_then ?_
    refine J_block ?_
    refine J_seq ?_
    refine J_region ?_
    refine L_v (opv_entryM (e := e) (es := es) (clk := clk) (r := r) (seen := (z.1.map (·.born)).toArray) ho2.1 hbo rfl) rfl ?_
    refine L_v (opv_extract (v := .agg (l.map enc8).toArray) rfl (by show some e.key = _; rw [hkk])) rfl ?_
    refine L_x rfl (opx_alloc rfl) (fun b4 _ => ?_)
    refine L_x rfl (opx_storeW (m := 6) rfl rfl (enc8_len hl) (enc8_one _) rfl) (fun _ _ => ?_)
    refine L_nil ?_
    refine K_then ?_
    refine J_region ?_
    refine L_v (opv_move rfl) rfl ?_
    refine L_v (opv_loadW rfl (enc8_len hl)) rfl ?_
    refine L_x rfl (opx_buildSlice1 (m := 6) rfl (enc8_len hl) (by omega) (by omega) rfl) (fun b18 _ => ?_)
    refine L_x rfl (opx_append (m := 6) (B := 6) rfl rfl (Src.lit) rfl (by omega) (by rw [enc8_len hl]) (enc8_one _) (by unfold maxLen; omega) (by omega) rfl) (fun y19 _ => ?_)
    refine L_v (opv_assign rfl) rfl ?_
    refine L_nil ?_
    refine K_block ?_
    exact K_loop ((z.1 ++ [e], y19)) (hz.snoc ho2.1 ho2.2) (leftN_lt ho2.1 ho2.2) ⟨congrArg (fun n => some (Value.slice y19.1 n y19.2)) hq3.symm, rfl, trivial⟩ (by show Ent _ (sep (blk it11 (.mapIter (some r) clk (((z.1 ++ [e]).map (·.born)).toArray) clk)) (sep (blk r (.map es clk)) (sep (Own 23 6 (.slice y19.1 (z.1 ++ [e]).length y19.2) ((z.1 ++ [e]).length) ((z.1 ++ [e]).flatMap keyC)) (sep (cel b [.map (some r)] 60) (F))))); rw [hq1, hq2, hq3]; exact Ent.take)
  · obtain rfl : o = none := by cases o with | none => rfl | some e => cases h1
    obtain ⟨ml, hm1, hm2, hm3⟩ := vis_m6 (vis := z.1) (fun e he => let ⟨l, h1, h2, _⟩ := key_of hK ho (hz.1 e he); ⟨l, h1, h2⟩)
    rw [hm2, hm3]
    refine J_exit ?_
    refine K_then_exit ?_
    refine K_then_exit ?_
    refine K_block_here ?_
    refine K_then ?_
    refine J_seq ?_
    refine J_region ?_
    refine L_v (opv_move rfl) rfl ?_
    refine L_x rfl (opx_call0 (Sort_own (.slice z.2.1 ml.length z.2.2) ml (by omega)) rfl rfl rfl) (fun d hd => ?_)
    rw [← hd.1.length_eq]
    refine L_nil ?_
    refine K_then ?_
    refine J_seq ?_
    refine J_region ?_
    refine L_v (opv_move rfl) rfl ?_
    refine L_v (opv_assign rfl) rfl ?_
    refine L_nil ?_
    refine K_then ?_
    refine J_ret ?_
    exact K_ret1 rfl rfl (z.2.1, z.2.2, d) ⟨all_ok hK ho hz ho2 hbo.1 hm1 hd.1 hd.2, by have := hd.1.length_eq; show d.length ≤ _; omega⟩ rfl (Ent.trans (Ent.swap (A := blk r (.map es clk)) (mapq_mk ho hbo)) Ent.take)

end Go.Proofs.YtkkoepnljofhpaaDoor
