/- slices.SortFunc over addresses, out of the library's contract: what it leaves is sorted; the function handed to it is proved by a walk; they are used by the texts that import this one. -/
import Derived.Test.YtkkoepnljofhpaaDoorAm
import Derived.Test.YtkkoepnljofhpaaDoorSh
import Derived.Test.YtkkoepnljofhpaaDoorL
import Derived.Test.YtkkoepnljofhpaaDoorAs
import Derived.Lib.BytesEntry
import Derived.Deep.QuietTactic
import Derived.BigQuiet
import Derived.Test.YtkkoepnljofhpaaDoorH
namespace Go.Proofs.YtkkoepnljofhpaaDoor
open Go.SLA
set_option maxRecDepth 100000
set_option linter.unusedVariables false
set_option linter.unusedSimpArgs false
attribute [local irreducible] J L K QL Rg FSpec OpV OpX Rd Back

open Go.RowKit Go.Lib Go.Sort
/-- Six bytes. -/
def M6 : Type := { l : List Nat // Bys 6 l }
instance : Inhabited M6 := ⟨⟨[0, 0, 0, 0, 0, 0], bys6 (by decide)⟩⟩
def encM (x : M6) : List Value := x.1.map enc8
theorem encM_len (x : M6) : (encM x).length = 6 := enc8_len x.2
def intsM (l : List Nat) : List Int := l.map fun w => ((w : Nat) : Int)
/-- A list of bytes as a number, the highest ones first. -/
def numM : List Nat → Nat
  | [] => 0
  | w :: r => w * 256 ^ r.length + numM r
theorem numM_lt : ∀ {l : List Nat}, (∀ w ∈ l, w < 256) → numM l < 256 ^ l.length
  | [], _ => by decide
  | w :: r, h => by
    have h1 := numM_lt (l := r) (fun x hx => h x (List.mem_cons_of_mem _ hx))
    have h2 := h w List.mem_cons_self
    rw [numM, List.length_cons, Nat.pow_succ]
    have : (w + 1) * 256 ^ r.length ≤ 256 * 256 ^ r.length := Nat.mul_le_mul_right _ (by omega)
    rw [Nat.add_mul] at this
    omega
def cmpN (a b : Nat) : Int := if a < b then -1 else if b < a then 1 else 0
theorem cmp_num : ∀ {a b : List Nat}, (∀ w ∈ a, w < 256) → (∀ w ∈ b, w < 256) → a.length = b.length → compareBytes (bytesOf (intsM a)) (bytesOf (intsM b)) = cmpN (numM a) (numM b)
  | [], [], _, _, _ => rfl
  | x :: a, y :: b, ha, hb, hl => by
    have hl' : a.length = b.length := by simpa using hl
    have ih := cmp_num (a := a) (b := b) (fun w hw => ha w (List.mem_cons_of_mem _ hw)) (fun w hw => hb w (List.mem_cons_of_mem _ hw)) hl'
    have hx := ha x List.mem_cons_self
    have hy := hb y List.mem_cons_self
    have na := numM_lt (l := a) (fun w hw => ha w (List.mem_cons_of_mem _ hw))
    have nb := numM_lt (l := b) (fun w hw => hb w (List.mem_cons_of_mem _ hw))
    rw [hl'] at na
    have e1 : bytesOf (intsM (x :: a)) = UInt8.ofNat x :: bytesOf (intsM a) := rfl
    have e2 : bytesOf (intsM (y :: b)) = UInt8.ofNat y :: bytesOf (intsM b) := rfl
    rw [e1, e2, compareBytes, ih, numM, numM, hl']
    have lt1 : (UInt8.ofNat x < UInt8.ofNat y) ↔ x < y := by
      rw [UInt8.lt_iff_toNat_lt, UInt8.toNat_ofNat', UInt8.toNat_ofNat', Nat.mod_eq_of_lt hx, Nat.mod_eq_of_lt hy]
    have lt2 : (UInt8.ofNat y < UInt8.ofNat x) ↔ y < x := by
      rw [UInt8.lt_iff_toNat_lt, UInt8.toNat_ofNat', UInt8.toNat_ofNat', Nat.mod_eq_of_lt hx, Nat.mod_eq_of_lt hy]
    rcases Nat.lt_trichotomy x y with h | h | h
    · rw [if_pos (lt1.2 h)]
      have : (x + 1) * 256 ^ b.length ≤ y * 256 ^ b.length := Nat.mul_le_mul_right _ h
      rw [Nat.add_mul] at this
      unfold cmpN
      rw [if_pos (by omega)]
    · subst h
      rw [if_neg (fun h => Nat.lt_irrefl _ (lt1.1 h)), if_neg (fun h => Nat.lt_irrefl _ (lt1.1 h))]
      unfold cmpN
      have q1 : (x * 256 ^ b.length + numM a < x * 256 ^ b.length + numM b) = (numM a < numM b) := propext (by omega)
      have q2 : (x * 256 ^ b.length + numM b < x * 256 ^ b.length + numM a) = (numM b < numM a) := propext (by omega)
      simp only [q1, q2]
    · rw [if_neg (fun e => absurd (lt1.1 e) (by omega)), if_pos (lt2.2 h)]
      have : (y + 1) * 256 ^ b.length ≤ x * 256 ^ b.length := Nat.mul_le_mul_right _ h
      rw [Nat.add_mul] at this
      unfold cmpN
      rw [if_neg (by omega), if_pos (by omega)]
theorem numM_inj : ∀ {a b : List Nat}, (∀ w ∈ a, w < 256) → (∀ w ∈ b, w < 256) → a.length = b.length → numM a = numM b → a = b
  | [], [], _, _, _, _ => rfl
  | x :: a, y :: b, ha, hb, hl, h => by
    have hl' : a.length = b.length := by simpa using hl
    have na := numM_lt (l := a) (fun w hw => ha w (List.mem_cons_of_mem _ hw))
    have nb := numM_lt (l := b) (fun w hw => hb w (List.mem_cons_of_mem _ hw))
    rw [hl'] at na
    rw [numM, numM, hl'] at h
    have hxy : x = y := by
      rcases Nat.lt_trichotomy x y with h' | h' | h'
      · have : (x + 1) * 256 ^ b.length ≤ y * 256 ^ b.length := Nat.mul_le_mul_right _ h'
        rw [Nat.add_mul] at this
        omega
      · exact h'
      · have : (y + 1) * 256 ^ b.length ≤ x * 256 ^ b.length := Nat.mul_le_mul_right _ h'
        rw [Nat.add_mul] at this
        omega
    subst hxy
    rw [numM_inj (fun w hw => ha w (List.mem_cons_of_mem _ hw)) (fun w hw => hb w (List.mem_cons_of_mem _ hw)) hl' (by omega)]
def cfM (x y : M6) : Int := cmpN (numM x.1) (numM y.1)
theorem ltM (x y : M6) : ltOf cfM x y = decide (numM x.1 < numM y.1) := by
  unfold ltOf cfM cmpN
  by_cases h1 : numM x.1 < numM y.1
  · simp [h1]
  · by_cases h2 : numM y.1 < numM x.1 <;> simp [h1, h2]
theorem swoM : SWO (ltOf cfM) where
  irrefl x := by rw [ltM]; simp
  trans x y z h1 h2 := by rw [ltM] at *; simp at *; omega
  ntrans x y z h1 h2 := by rw [ltM] at *; simp at *; omega
theorem run_compareSlice {P : Program} (w : World) (b1 b2 c1 c2 : Nat) (xs ys : List Int) (hx : ∀ i, i < xs.length → w.cell? ⟨b1, i, none⟩ = some (.int .u8 (xs.getD i 0))) (hy : ∀ i, i < ys.length → w.cell? ⟨b2, i, none⟩ = some (.int .u8 (ys.getD i 0))) :
    (Extern.BytealgCompare.compare #[.slice (some ⟨b1, 0, none⟩) xs.length c1, .slice (some ⟨b2, 0, none⟩) ys.length c2]).run P w = .ok (.int .i64 (compareBytes (bytesOf xs) (bytesOf ys))) w := by
  have hl : ∀ (b : Nat) (zs : List Int), (∀ i, i < zs.length → w.cell? ⟨b, i, none⟩ = some (.int .u8 (zs.getD i 0))) → (Extern.Bytes.loadBytes ⟨b, 0, none⟩ zs.length .empty).run P w = .ok ⟨(bytesOf zs).toArray⟩ w := by
    intro b zs hz
    have := run_loadBytesX (P := P) w zs ⟨b, 0, none⟩ .empty (fun j x hj => by
      have hjl : j < zs.length := (List.getElem?_eq_some_iff.1 hj).1
      have e : (⟨b, 0, none⟩ : Addr).add j = ⟨b, j, none⟩ := by unfold Addr.add; split <;> simp_all
      rw [e, hz j hjl, List.getD_eq_getElem?_getD, hj]
      rfl)
    have he : (⟨ByteArray.empty.data ++ (bytesOf zs).toArray⟩ : ByteArray) = ⟨(bytesOf zs).toArray⟩ := by
      apply ByteArray.ext
      show (#[] : Array UInt8) ++ (bytesOf zs).toArray = (bytesOf zs).toArray
      simp
    rwa [he] at this
  change Sem.run P (do pure (goInt (Extern.BytealgCompare.cmp (← Extern.Bytes.bytesOf (.slice (some ⟨b1, 0, none⟩) xs.length c1)) (← Extern.Bytes.bytesOf (.slice (some ⟨b2, 0, none⟩) ys.length c2))))) w = _
  simp only [Extern.Bytes.bytesOf, Sem.run_bind, Sem.run_pure, hl b1 xs hx, hl b2 ys hy, Result.andThen]
  rw [cmp_eq]
  rfl
set_option maxHeartbeats 1000000 in
/-- bytes.Compare at two slices of bytes. -/
theorem cmp45 (w : World) (b1 b2 c1 c2 : Nat) (xs ys : List Int) (hx : ∀ i, i < xs.length → w.cell? ⟨b1, i, none⟩ = some (.int .u8 (xs.getD i 0))) (hy : ∀ i, i < ys.length → w.cell? ⟨b2, i, none⟩ = some (.int .u8 (ys.getD i 0))) :
    Calls Tryd.prog 45 #[.slice (some ⟨b1, 0, none⟩) xs.length c1, .slice (some ⟨b2, 0, none⟩) ys.length c2] w fun e w' => e = .returned (.int .i64 (compareBytes (bytesOf xs) (bytesOf ys))) ∧ w' = w := by
  go_enter Tryd.func45, Tryd.ntmps45
  go_wp2
  rw [run_callFunc_extern Tryd.func53 (by kernel_rfl) (by kernel_rfl) (by kernel_rfl) (e := Extern.BytealgCompare.compare) (by kernel_rfl), run_compareSlice w b1 b2 c1 c2 xs ys hx hy]
  simp only [Result.andThen]
  rw [Oper.upon_value]
  go_wp2
  go_ret
  exact ⟨rfl, rfl⟩


theorem cell_enc (w : World) (b : Nat) (t : TypeId) (x : M6) (h : w.heap[b]? = some (.cells (encM x).toArray t (0, 0))) : ∀ i, i < 6 → w.cell? ⟨b, i, none⟩ = some (.int .u8 ((intsM x.1).getD i 0)) := by
  intro i hi
  have hi' : i < x.1.length := by rw [x.2.1]; exact hi
  simp only [World.cell?, h, Option.isSome_none, Bool.false_eq_true, if_false]
  unfold encM intsM
  simp [List.getD_eq_getElem?_getD, List.getElem?_eq_getElem hi', enc8]
theorem cmp45' (w : World) (b1 b2 : Nat) (t : TypeId) (x y : M6) (h1 : w.heap[b1]? = some (.cells (encM x).toArray t (0, 0))) (h2 : w.heap[b2]? = some (.cells (encM y).toArray t (0, 0))) :
    Calls Tryd.prog 45 #[.slice (some ⟨b1, 0, none⟩) 6 6, .slice (some ⟨b2, 0, none⟩) 6 6] w fun e w' => e = .returned (.int .i64 (cfM x y)) ∧ w' = w := by
  have lx : (intsM x.1).length = 6 := by unfold intsM; rw [List.length_map, x.2.1]
  have ly : (intsM y.1).length = 6 := by unfold intsM; rw [List.length_map, y.2.1]
  have := cmp45 w b1 b2 6 6 (intsM x.1) (intsM y.1) (by rw [lx]; exact cell_enc w b1 t x h1) (by rw [ly]; exact cell_enc w b2 t y h2)
  rw [lx, ly, cmp_num x.2.2 y.2.2 (by rw [x.2.1, y.2.1])] at this
  exact this
set_option maxHeartbeats 2000000 in
theorem closure44 (x y : M6) (W : World) : Calls Tryd.prog 44 #[.agg (encM x).toArray, .agg (encM y).toArray] W fun e w' => e = .returned (.int .i64 (cfM x y)) ∧ ∃ q os', w' = grow (W.drewN q) os' := by
  have hcon := fun W' b1 b2 h1 h2 => cmp45' W' b1 b2 23 x y h1 h2
  generalize cfM x y = r at hcon ⊢
  generalize hX : (encM x).toArray = X at hcon ⊢
  generalize hY : (encM y).toArray = Y at hcon ⊢
  have sX : X.size = 6 := by rw [← hX, List.size_toArray, encM_len]
  have sY : Y.size = 6 := by rw [← hY, List.size_toArray, encM_len]
  go_enter Tryd.func44, Tryd.ntmps44
  go_wp2
  have g1 : ∀ q, (((W.alloc (Obj.cells X 23)).alloc (Obj.cells Y 23)).drewN q).heap[W.heap.size]? = some (Obj.cells X 23) := fun q => by
    rw [World.heap_drewN, heap_alloc_old _ _ (by rw [World.size_alloc]; omega), heap_alloc_new]
  have g2 : ∀ q, (((W.alloc (Obj.cells X 23)).alloc (Obj.cells Y 23)).drewN q).heap[W.heap.size + 1]? = some (Obj.cells Y 23) := fun q => by
    rw [World.heap_drewN, ← World.size_alloc, heap_alloc_new]
  go_quiet ((go_at_call 45; exact Calls.quiet_of_same (hcon _ _ _ (g1 _) (g2 _))))
  go_wp2
  go_ret
  exact ⟨rfl, nq, _, by rw [alloc_eq_grow, alloc_eq_grow, grow_grow]; rfl⟩
theorem cmpLaysM (blk off size : Nat) (w : World) : CmpLays Tryd.prog 44 #[] encM 6 cfM blk off size w := fun _ _ _ _ x y => closure44 x y _

end Go.Proofs.YtkkoepnljofhpaaDoor
