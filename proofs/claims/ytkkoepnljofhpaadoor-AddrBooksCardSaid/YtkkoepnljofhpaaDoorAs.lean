/- Contracts of strconv.ParseUint at the base 16 and 8 bits, and of the document's Print and Parse; they are used by the texts that import this one. -/
import Derived.Test.YtkkoepnljofhpaaDoorAr
import Derived.Test.YtkkoepnljofhpaaDoorH
namespace Go.Proofs.YtkkoepnljofhpaaDoor
open Go.SLA
set_option maxRecDepth 100000
set_option linter.unusedVariables false
set_option linter.unusedSimpArgs false
attribute [local irreducible] J L K QL Rg FSpec OpV OpX Rd Back

section
variable {prog : Program} {σ : World} {n : Nat} {E : Env} {P : HProp}
/-- An error that is nil where c holds. -/
theorem opv_neqIc {d : Option Tmp} {ty : TypeId} {pos : String} {aft : Array Edge} {g : Option (Nat × Bool)} {x : Operand} {t t' u : TypeId} {v : Value} {c : Prop} [Decidable c] [hc : IfcT prog t] (hx : ev E x = some (if c then .nilIface else .iface u v)) : OpV prog σ n E P ⟨d, .binOp .neq t x (.const .nilIface) t', ty, pos, aft, g⟩ (.bool (decide (¬ c))) := by
  by_cases h : c
  · rw [if_pos h] at hx
    have := opv_neqI0 (prog := prog) (σ := σ) (n := n) (E := E) (P := P) (d := d) (ty := ty) (pos := pos) (aft := aft) (g := g) (t := t) (t' := t') hx
    rw [decide_eq_false (fun k => k h)]; exact this
  · rw [if_neg h] at hx
    have := opv_neqI (prog := prog) (σ := σ) (n := n) (E := E) (P := P) (d := d) (ty := ty) (pos := pos) (aft := aft) (g := g) (t := t) (t' := t') hx
    rw [decide_eq_true h]; exact this
end
/-- The variables of strconv's errors hold errors. -/
def ErrsOk (W : World) : Prop := (∃ ev, W.cell? (ad 1 0) = some ev ∧ (ev = .nilIface ∨ ∃ te pe, ev = .iface te pe)) ∧ ∃ ev, W.cell? (ad 2 0) = some ev ∧ (ev = .nilIface ∨ ∃ te pe, ev = .iface te pe)
theorem pu_case {s : ByteArray} (h : ¬ (pu s).2 = 0) : (pu s).2 = 1 ∨ (pu s).2 = 2 := (pu_err s).resolve_left h
theorem errV_no {k : Int} (h : ¬ k = 0) : errV k = .iface 127 (.int .i64 k) := if_neg h

theorem PU_ok (W : World) (hE : ErrsOk W) (s : ByteArray) (hs : s.size ≤ 1000000) (h : (pu s).2 = 0) : FSpec Tryd.prog 47 #[.string s, .int .i64 16, .int .i64 8] (old W) (fun _ : Unit => True) (fun _ => .tuple #[.int .u64 ((pu s).1 : Nat), .nilIface]) (fun _ => old W) := by
  refine FSpec.enter' Tryd.func47 rfl Tryd.ntmps47 rfl fun σ F => ?_
  refine J_seq ?_
  refine J_region ?_
  refine L_v (opv_assign rfl) rfl ?_
  refine L_v (opv_assign rfl) rfl ?_
  refine L_nil ?_
  refine K_then ?_
  refine J_seq ?_
  refine J_region ?_
  refine L_v (opv_move rfl) rfl ?_
  refine L_v (opv_move rfl) rfl ?_
  refine L_v (opv_move rfl) rfl ?_
  refine L_x rfl (opx_call0 (PuIn_spec s hs) rfl rfl rfl) (fun _ _ => ?_)
  refine L_emp ?_
  refine L_v (opv_move rfl) rfl ?_
  refine L_v (opv_extract (v := .int .u64 ((pu s).1 : Nat)) rfl rfl) rfl ?_
  refine L_v ((opv_extract (v := errV (pu s).2) rfl rfl).as (v' := .nilIface) (if_pos h)) rfl ?_
  refine L_v (opv_assign rfl) rfl ?_
  refine L_v (opv_assign rfl) rfl ?_
  refine L_nil ?_
  refine K_then ?_
  refine J_seq ?_
  refine J_seq ?_
  refine J_region ?_
  refine L_v (opv_move rfl) rfl ?_
  refine L_v (opv_neqI0 rfl) rfl ?_
  refine L_nil ?_
  refine K_then ?_
  refine J_cond_false rfl ?_
  refine J_skip ?_
  refine K_then ?_
  refine J_seq ?_
  refine J_region ?_
  refine L_v (opv_move rfl) rfl ?_
  refine L_v (opv_assign rfl) rfl ?_
  refine L_v (opv_assign rfl) rfl ?_
  refine L_nil ?_
  refine K_then ?_
  refine J_ret ?_
  exact K_ret2 rfl rfl rfl () trivial rfl Ent.take

theorem PU_bad (W : World) (hE : ErrsOk W) (s : ByteArray) (hs : s.size ≤ 1000000) (h : ¬ (pu s).2 = 0) : FSpec Tryd.prog 47 #[.string s, .int .i64 16, .int .i64 8] (old W) (fun N : Nat => True) (fun N => .tuple #[.int .u64 ((pu s).1 : Nat), .iface 129 (.pointer (some (ad N 0)))]) (fun N => old W) := by
  refine FSpec.enter' Tryd.func47 rfl Tryd.ntmps47 rfl fun σ F => ?_
  refine J_seq ?_
  refine J_region ?_
  refine L_v (opv_assign rfl) rfl ?_
  refine L_v (opv_assign rfl) rfl ?_
  refine L_nil ?_
  refine K_then ?_
  refine J_seq ?_
  refine J_region ?_
  refine L_v (opv_move rfl) rfl ?_
  refine L_v (opv_move rfl) rfl ?_
  refine L_v (opv_move rfl) rfl ?_
  refine L_x rfl (opx_call0 (PuIn_spec s hs) rfl rfl rfl) (fun _ _ => ?_)
  refine L_emp ?_
  refine L_v (opv_move rfl) rfl ?_
  refine L_v (opv_extract (v := .int .u64 ((pu s).1 : Nat)) rfl rfl) rfl ?_
  refine L_v ((opv_extract (v := errV (pu s).2) rfl rfl).as (errV_no h)) rfl ?_
  refine L_v (opv_assign rfl) rfl ?_
  refine L_v (opv_assign rfl) rfl ?_
  refine L_nil ?_
  refine K_then ?_
  refine J_seq ?_
  refine J_seq ?_
  refine J_region ?_
  refine L_v (opv_move rfl) rfl ?_
  refine L_v (opv_neqI rfl) rfl ?_
  refine L_nil ?_
  refine K_then ?_
  refine J_cond_true rfl ?_
  refine J_seq ?_
  refine J_region ?_
  refine L_v (opv_move rfl) rfl ?_
  refine L_v (opv_move rfl) rfl ?_
  refine L_v (opv_move rfl) rfl ?_
  refine L_v (opv_move rfl) rfl ?_
  refine L_v (opv_move rfl) rfl ?_
  refine L_x rfl (opx_call0 (toErr_fs W _ s 16 8 (pu s).2 (pu_case h) (by omega) hE.1 hE.2) rfl rfl rfl) (fun N _ => ?_)
  refine L_v (opv_assign rfl) rfl ?_
  refine L_v (opv_assign rfl) rfl ?_
  refine L_nil ?_
  refine K_then ?_
  refine J_ret ?_
  refine K_then_ret ?_
  exact K_ret2 rfl rfl rfl N trivial rfl Ent.take


theorem PU_any (W : World) (hE : ErrsOk W) (s : ByteArray) (hs : s.size ≤ 1000000) : FSpec Tryd.prog 47 #[.string s, .int .i64 16, .int .i64 8] (old W) (fun _ : Nat => True) (fun N => .tuple #[.int .u64 ((pu s).1 : Nat), if (pu s).2 = 0 then .nilIface else .iface 129 (.pointer (some (ad N 0)))]) (fun _ => old W) := by
  by_cases h : (pu s).2 = 0
  · exact (PU_ok W hE s hs h).conseq (Ent.refl _) fun _ _ => ⟨0, trivial, by rw [if_pos h], Ent.refl _⟩
  · exact (PU_bad W hE s hs h).conseq (Ent.refl _) fun N _ => ⟨N, trivial, by rw [if_neg h], Ent.refl _⟩


/-! ### Texts of addresses -/
def dig (n : Nat) : Nat := cN digS n
theorem dig_ok : ∀ n : Fin 16, dig n.1 < 256 ∧ dig n.1 ≠ 58 := by decide +kernel
theorem dig_lt {n : Nat} (h : n < 16) : dig n < 256 := (dig_ok ⟨n, h⟩).1
theorem dig_58 {n : Nat} (h : n < 16) : dig n ≠ 58 := (dig_ok ⟨n, h⟩).2
theorem tx_append (l r : List Nat) : tx (l ++ r) = tx l ++ tx r := by
  apply ByteArray.ext
  unfold tx bytesL
  simp
theorem pr2_tx (w : Nat) : pr2 w = tx [dig (w / 16), dig (w % 16)] := by
  unfold pr2
  rw [show [dig (w / 16), dig (w % 16)] = [dig (w / 16)] ++ [dig (w % 16)] from rfl, tx_append]
  rfl
def pfx (ms : List Nat) : List Nat := ms.flatMap fun w => [dig (w / 16), dig (w % 16), 58]
/-- The numbers of the text of an address. -/
def prL : List Nat → List Nat
  | [] => []
  | w :: r => [dig (w / 16), dig (w % 16)] ++ r.flatMap fun w => [58, dig (w / 16), dig (w % 16)]
theorem joinB_tx : ∀ (r : List Nat) (a : List Nat), joinB (tx a) (r.map pr2) = tx (a ++ r.flatMap fun w => [58, dig (w / 16), dig (w % 16)])
  | [], a => by simp [joinB]
  | w :: r, a => by
    have h := joinB_tx r (a ++ [58, dig (w / 16), dig (w % 16)])
    have e : joinB (tx a) ((w :: r).map pr2) = joinB ((tx a ++ colon) ++ pr2 w) (r.map pr2) := rfl
    have e2 : (tx a ++ colon) ++ pr2 w = tx (a ++ [58, dig (w / 16), dig (w % 16)]) := by
      rw [pr2_tx, show colon = tx [58] from rfl, ← tx_append, ← tx_append, List.append_assoc]; rfl
    rw [e, e2, h, List.append_assoc]; rfl
theorem printB_tx (ms : List Nat) : printB ms = tx (prL ms) := by
  cases ms with
  | nil => rfl
  | cons w r =>
    show joinB (pr2 w) (r.map pr2) = _
    rw [pr2_tx, joinB_tx]; rfl
theorem prL_pfx : ∀ (r : List Nat) (w : Nat), prL (w :: r) ++ [58] = pfx (w :: r)
  | [], w => rfl
  | v :: r, w => by
    have h := prL_pfx r v
    have e1 : prL (w :: v :: r) = [dig (w / 16), dig (w % 16), 58] ++ prL (v :: r) := by simp [prL]
    have e2 : pfx (w :: v :: r) = [dig (w / 16), dig (w % 16), 58] ++ pfx (v :: r) := rfl
    rw [e1, e2, List.append_assoc, h]
theorem pfx_bytes {ms : List Nat} (h : ∀ w ∈ ms, w < 256) : ∀ c ∈ pfx ms, c < 256 := by
  intro c hc
  obtain ⟨w, hw, hc⟩ := List.mem_flatMap.1 hc
  have := h w hw
  simp only [List.mem_cons, List.not_mem_nil, or_false] at hc
  rcases hc with rfl | rfl | rfl
  · exact dig_lt (by omega)
  · exact dig_lt (by omega)
  · decide
theorem pfx_len : ∀ ms : List Nat, (pfx ms).length = 3 * ms.length
  | [] => rfl
  | w :: r => by rw [show pfx (w :: r) = [dig (w / 16), dig (w % 16), 58] ++ pfx r from rfl, List.length_append, pfx_len r, List.length_cons]; simp; omega
theorem codes_tx {l : List Nat} (h : ∀ c ∈ l, c < 256) : codes (tx l) = l := by
  unfold codes tx bytesL
  simp only [List.map_map]
  refine List.map_congr_left (g := id) ?_ |>.trans (List.map_id _)
  intro c hc
  have := h c hc
  simp only [Function.comp_apply, Int.toNat_natCast, id_eq, UInt8.toNat_ofNat']
  omega
theorem tx_codes (s : ByteArray) : tx (codes s) = s := by
  apply ByteArray.ext
  apply Array.toList_inj.1
  unfold codes tx bytesL
  simp only [List.map_map]
  refine List.map_congr_left (g := id) ?_ |>.trans (List.map_id _)
  intro c _
  simp
/-- A text as an address: with a colon behind. -/
def cs (s : ByteArray) : List Nat := codes s ++ [58]
theorem is_print {ms : List Nat} (hb : ∀ w ∈ ms, w < 256) (h6 : ms.length = 6) (s : ByteArray) : s = printB ms ↔ cs s = pfx ms := by
  match ms, h6 with
  | w :: r, h6 =>
    have hp := prL_pfx r w
    have hby : ∀ c ∈ prL (w :: r), c < 256 := fun c hc => pfx_bytes hb c (by rw [← hp]; exact List.mem_append_left _ hc)
    constructor
    · rintro rfl
      unfold cs
      rw [printB_tx, codes_tx hby, hp]
    · intro h
      unfold cs at h
      rw [← hp] at h
      have := List.append_cancel_right h
      rw [← tx_codes s, this, printB_tx]
theorem pfx_get : ∀ {ms : List Nat} {k w : Nat}, ms[k]? = some w → (pfx ms)[3 * k]? = some (dig (w / 16)) ∧ (pfx ms)[3 * k + 1]? = some (dig (w % 16)) ∧ (pfx ms)[3 * k + 2]? = some 58
  | v :: r, 0, w, h => by
    obtain rfl : v = w := by simpa using h
    exact ⟨rfl, rfl, rfl⟩
  | v :: r, k + 1, w, h => by
    have := pfx_get (ms := r) (k := k) (w := w) (by simpa using h)
    rw [show pfx (v :: r) = dig (v / 16) :: dig (v % 16) :: 58 :: pfx r from rfl, show 3 * (k + 1) = 3 * k + 1 + 1 + 1 by omega]
    simpa using this
theorem cs_len (s : ByteArray) : (cs s).length = s.size + 1 := by unfold cs; rw [List.length_append, codes_len]; rfl
theorem codes_get {s : ByteArray} {i : Nat} (h : i < s.size) : (codes s)[i]? = some (cN s i) := by
  have := codes_drop h
  have e : (codes s)[i]? = ((codes s).drop i)[0]? := by rw [List.getElem?_drop, Nat.add_zero]
  rw [e, this]; rfl
theorem cs_get {s : ByteArray} {i : Nat} (h : i < s.size) : (cs s)[i]? = some (cN s i) := by
  unfold cs
  rw [List.getElem?_append_left (by rw [codes_len]; exact h), codes_get h]
theorem cs_end (s : ByteArray) : (cs s)[s.size]? = some 58 := by
  unfold cs
  rw [List.getElem?_append_right (by rw [codes_len]; exact Nat.le_refl _), codes_len, Nat.sub_self]; rfl
def IsA (s : ByteArray) (ms : List Nat) : Prop := Bys 6 ms ∧ s = printB ms
theorem dig_in {m n : Nat} (hm : m < 16) (hn : n < 16) (h : dig m = dig n) : m = n := by
  have key : ∀ m n : Fin 16, dig m.1 = dig n.1 → m.1 = n.1 := by decide +kernel
  exact key ⟨m, hm⟩ ⟨n, hn⟩ h
theorem isA_inj {s : ByteArray} {a b : List Nat} (ha : IsA s a) (hb : IsA s b) : a = b := by
  have e := ((is_print ha.1.2 ha.1.1 s).1 ha.2).symm.trans ((is_print hb.1.2 hb.1.1 s).1 hb.2)
  apply List.ext_getElem?
  intro i
  rcases Nat.lt_or_ge i 6 with hi | hi
  · obtain ⟨x, hx, mx⟩ := get_lt (l := a) (i := i) (by rw [ha.1.1]; exact hi)
    obtain ⟨y, hy, my⟩ := get_lt (l := b) (i := i) (by rw [hb.1.1]; exact hi)
    have px := pfx_get hx
    have py := pfx_get hy
    have lx := ha.1.2 _ mx
    have ly := hb.1.2 _ my
    rw [e] at px
    have q1 := dig_in (by omega) (by omega) (Option.some.inj (px.1.symm.trans py.1))
    have q2 := dig_in (by omega) (by omega) (Option.some.inj (px.2.1.symm.trans py.2.1))
    rw [hx, hy]
    congr 1
    omega
  · rw [List.getElem?_eq_none (by rw [ha.1.1]; exact hi), List.getElem?_eq_none (by rw [hb.1.1]; exact hi)]
open Classical in
/-- What a text is as an address. -/
noncomputable def parseV (s : ByteArray) : List Nat × Int := if h : ∃ ms, IsA s ms then (Classical.choose h, 0) else ([0, 0, 0, 0, 0, 0], 14)
theorem parseV_yes {s : ByteArray} {ms : List Nat} (h : IsA s ms) : parseV s = (ms, 0) := by
  have hh : ∃ ms, IsA s ms := ⟨ms, h⟩
  unfold parseV
  rw [dif_pos hh, isA_inj (Classical.choose_spec hh) h]
theorem parseV_no {s : ByteArray} (h : ∀ ms, ¬ IsA s ms) : parseV s = ([0, 0, 0, 0, 0, 0], 14) := by
  unfold parseV
  rw [dif_neg (fun ⟨ms, hm⟩ => h ms hm)]
theorem same_parse (s : ByteArray) : FSpec Tryd.prog 12 #[ag (parseV s).1, .int .i64 (parseV s).2, .string (txe (parseV s)), .int .i64 (parseV s).2] emp (fun _ : Unit => True) (fun _ => .bool true) (fun _ => emp) := by
  by_cases h : ∃ ms, IsA s ms
  · obtain ⟨ms, hm⟩ := h
    rw [parseV_yes hm]
    exact same_any (p := (ms, 0)) ⟨hm.1, .inl rfl⟩
  · rw [parseV_no (fun ms hm => h ⟨ms, hm⟩)]
    exact same_bad 14 (by decide) _
/-! ### Cutting at colons -/
theorem index_hit : ∀ (x t : List UInt8), 58 ∉ x → Lib.indexByte (x ++ 58 :: t) 58 = x.length
  | [], t, _ => rfl
  | b :: x, t, h => by
    have hb : (b == 58) = false := by simpa using fun e => h (by rw [e]; exact List.mem_cons_self)
    have := index_hit x t (fun hm => h (List.mem_cons_of_mem _ hm))
    rw [List.cons_append, Lib.indexByte, hb, this]
    simp only [Bool.false_eq_true, if_false]
    rw [if_neg (by simp)]
    simp
theorem index_miss : ∀ (x : List UInt8), 58 ∉ x → Lib.indexByte x 58 = -1
  | [], _ => rfl
  | b :: x, h => by
    have hb : (b == 58) = false := by simpa using fun e => h (by rw [e]; exact List.mem_cons_self)
    have := index_miss x (fun hm => h (List.mem_cons_of_mem _ hm))
    rw [Lib.indexByte, hb, this]
    rfl
def joinK (a : List UInt8) (r : List (List UInt8)) : List UInt8 := a ++ r.flatMap (58 :: ·)
theorem split_join : ∀ (r : List (List UInt8)) (a : List UInt8), 58 ∉ a → (∀ x ∈ r, 58 ∉ x) → Lib.splitK [58] 0 r.length (joinK a r) = a :: r ∧ (joinK a r).count 58 = r.length
  | [], a, ha, _ => by
    unfold joinK
    simp only [List.flatMap_nil, List.append_nil]
    exact ⟨rfl, List.count_eq_zero.2 ha⟩
  | x :: r, a, ha, hr => by
    obtain ⟨h1, h2⟩ := split_join r x (hr x List.mem_cons_self) (fun y hy => hr y (List.mem_cons_of_mem _ hy))
    have e : joinK a (x :: r) = a ++ 58 :: joinK x r := by unfold joinK; simp
    have hi : Lib.index (joinK a (x :: r)) [58] = a.length := by rw [Lib.index_one, e, index_hit a _ ha]
    refine ⟨?_, ?_⟩
    · rw [List.length_cons, Lib.splitK, hi]
      rw [if_neg (by simp)]
      rw [e]
      simp only [Int.toNat_natCast, Nat.add_zero, List.length_singleton]
      rw [List.take_left' rfl, show a.length + 1 = (a ++ [58]).length by simp, show a ++ 58 :: joinK x r = (a ++ [58]) ++ joinK x r by simp, List.drop_left' rfl, h1]
    · rw [e, List.count_append, List.count_cons, h2, List.count_eq_zero.2 ha]; simp
theorem joinB_data : ∀ (r : List ByteArray) (a : ByteArray), (joinB a r).data.toList = joinK a.data.toList (r.map (·.data.toList))
  | [], a => by simp [joinB, joinK]
  | s :: r, a => by
    have e : joinB a (s :: r) = joinB ((a ++ colon) ++ s) r := rfl
    rw [e, joinB_data r]
    unfold joinK
    simp [colon]
theorem data_inj : ∀ {a b : List ByteArray}, a.map (·.data.toList) = b.map (·.data.toList) → a = b := by
  intro a b h
  refine List.map_inj_right ?_ |>.1 h
  intro x y e
  cases x; cases y
  simp only at e
  rw [Array.toList_inj.1 e]
theorem pieces_join (a : ByteArray) (r : List ByteArray) (ha : (58 : UInt8) ∉ a.data.toList) (hr : ∀ x ∈ r, (58 : UInt8) ∉ x.data.toList) : pieces (joinB a r) = a :: r := by
  have h := split_join (r.map (·.data.toList)) a.data.toList ha (fun x hx => by obtain ⟨y, hy, rfl⟩ := List.mem_map.1 hx; exact hr y hy)
  apply data_inj
  unfold pieces
  have hc : Lib.countB (joinB a r) colon = r.length := by
    show Lib.count (joinB a r).data.toList [58] = _
    rw [Lib.count_one, joinB_data, h.2, List.length_map]
  rw [Lib.splitB_data, hc, joinB_data]
  have := h.1
  rw [List.length_map] at this
  exact this
theorem tx_no58 {l : List Nat} (h : ∀ c ∈ l, c < 256 ∧ c ≠ 58) : (58 : UInt8) ∉ (tx l).data.toList := by
  intro hm
  unfold tx bytesL at hm
  simp only [List.map_map, List.mem_map, Function.comp_apply, Int.toNat_natCast] at hm
  obtain ⟨c, hc, e⟩ := hm
  have := h c hc
  have e2 := congrArg UInt8.toNat e
  rw [UInt8.toNat_ofNat'] at e2
  have : (58 : UInt8).toNat = 58 := rfl
  omega
theorem pr2_no58 {w : Nat} (h : w < 256) : (58 : UInt8) ∉ (pr2 w).data.toList := by
  rw [pr2_tx]
  refine tx_no58 fun c hc => ?_
  simp only [List.mem_cons, List.not_mem_nil, or_false] at hc
  rcases hc with rfl | rfl
  · exact ⟨dig_lt (by omega), dig_58 (by omega)⟩
  · exact ⟨dig_lt (by omega), dig_58 (by omega)⟩
theorem pieces_print {ms : List Nat} (hb : ∀ w ∈ ms, w < 256) (h : ms ≠ []) : pieces (printB ms) = ms.map pr2 := by
  cases ms with
  | nil => exact absurd rfl h
  | cons w r =>
    show pieces (joinB (pr2 w) (r.map pr2)) = _
    exact pieces_join _ _ (pr2_no58 (hb w List.mem_cons_self)) (fun x hx => by obtain ⟨v, hv, rfl⟩ := List.mem_map.1 hx; exact pr2_no58 (hb v (List.mem_cons_of_mem _ hv)))
theorem pu_pr2 {w : Nat} (h : w < 256) : pu (pr2 w) = (w, 0) := by
  have key : ∀ w : Fin 256, pu (pr2 w.1) = (w.1, 0) := by decide +kernel
  exact key ⟨w, h⟩
theorem piece_size (sep : ByteArray) : ∀ (k : Nat) (s x : ByteArray), x ∈ Lib.splitB sep 0 k s → x.size ≤ s.size
  | 0, s, x, h => by rw [Lib.splitB_zero] at h; rw [List.mem_singleton.1 h]; exact Nat.le_refl _
  | k + 1, s, x, h => by
    unfold Lib.splitB at h
    split at h
    · rw [List.mem_singleton.1 h]; exact Nat.le_refl _
    · rcases List.mem_cons.1 h with rfl | h
      · rw [ByteArray.size_extract]; omega
      · have := piece_size sep k _ x h
        rw [ByteArray.size_extract] at this
        omega

end Go.Proofs.YtkkoepnljofhpaaDoor
