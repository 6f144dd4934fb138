/- Numbers in their ranges. -/
import Derived.Test.YtkkoepnljofhpaaDoorK
import Derived.IntWalk
set_option linter.unusedVariables false
set_option linter.unusedSimpArgs false
namespace Go.SLA
variable {prog : Program} {σ : World} {n : Nat} {E : Env} {P : HProp} {d : Option Tmp} {ty : TypeId} {pos : String} {aft : Array Edge} {g : Option (Nat × Bool)} {x y : Operand} {t t' : TypeId} {k : IntKind} {a b : Int}
theorem opv_addW (hx : ev E x = some (.int k a)) (hy : ev E y = some (.int k b)) (h : k.wrap (a + b) = a + b) : OpV prog σ n E P ⟨d, .binOp .add t x y t', ty, pos, aft, g⟩ (.int k (a + b)) := (opv_add hx hy).as (by rw [h])
theorem opv_subW (hx : ev E x = some (.int k a)) (hy : ev E y = some (.int k b)) (h : k.wrap (a - b) = a - b) : OpV prog σ n E P ⟨d, .binOp .sub t x y t', ty, pos, aft, g⟩ (.int k (a - b)) := (opv_sub hx hy).as (by rw [h])
theorem opv_mulW (hx : ev E x = some (.int k a)) (hy : ev E y = some (.int k b)) (h : k.wrap (a * b) = a * b) : OpV prog σ n E P ⟨d, .binOp .mul t x y t', ty, pos, aft, g⟩ (.int k (a * b)) := (opv_mul hx hy).as (by rw [h])
theorem opv_quoP (hx : ev E x = some (.int .i64 a)) (hy : ev E y = some (.int .i64 b)) (h : 0 ≤ a ∧ a ≤ 9223372036854775807 ∧ 1 ≤ b) : OpV prog σ n E P ⟨d, .binOp .quo t x y t', ty, pos, aft, g⟩ (.int .i64 (a / b)) := (opv_quo hx hy (by omega)).as (by rw [Go.IntWalk.i64_quo a b h])
theorem opv_remP (hx : ev E x = some (.int k a)) (hy : ev E y = some (.int k b)) (h : 0 ≤ a ∧ 1 ≤ b) : OpV prog σ n E P ⟨d, .binOp .rem t x y t', ty, pos, aft, g⟩ (.int k (a % b)) := (opv_rem hx hy (by omega)).as (by rw [Go.IntWalk.rem_in a b h.1])
theorem opv_convW {k' : IntKind} [IntT prog t k] [IntT prog t' k'] (hx : ev E x = some (.int k a)) (h : k'.wrap a = a) : OpV prog σ n E P ⟨d, .convert t t' x, ty, pos, aft, g⟩ (.int k' a) := (opv_convert hx).as (by rw [h])
theorem fdiv_pow {a : Int} {m : Nat} (h : 0 ≤ a) : a.fdiv (2 ^ m) = a / 2 ^ m := by
  rw [Int.fdiv_eq_ediv_of_nonneg]
  exact Int.le_of_lt (Int.pow_pos (by decide))
theorem opv_shrP {yk : IntKind} (hx : ev E x = some (.int k a)) (hy : ev E y = some (.int yk b)) (h : 0 ≤ a ∧ 0 ≤ b) : OpV prog σ n E P ⟨d, .binOp .shr t x y t', ty, pos, aft, g⟩ (.int k (a / 2 ^ (min b.toNat k.bits))) := (opv_shr hx hy h.2).as (by rw [fdiv_pow h.1])
theorem opv_shlW {yk : IntKind} (hx : ev E x = some (.int k a)) (hy : ev E y = some (.int yk b)) (h : 0 ≤ b) (hw : k.wrap (a * 2 ^ (min b.toNat k.bits)) = a * 2 ^ (min b.toNat k.bits)) : OpV prog σ n E P ⟨d, .binOp .shl t x y t', ty, pos, aft, g⟩ (.int k (a * 2 ^ (min b.toNat k.bits))) := (opv_shl hx hy h).as (by rw [hw])
/-- The low bits of a number. -/
theorem low_bits {w m : Nat} {a : Int} (hm : m ≤ w) (h : 0 ≤ a ∧ a < 2 ^ w) : ((BitVec.ofInt w a &&& BitVec.ofInt w (2 ^ m - 1)).toNat : Int) = a % 2 ^ m := by
  obtain ⟨h0, h1⟩ := h
  obtain ⟨x, rfl⟩ : ∃ x : Nat, a = x := ⟨a.toNat, by omega⟩
  have hx : x < 2 ^ w := by exact_mod_cast h1
  have h2 : (2 : Int) ^ m - 1 = ((2 ^ m - 1 : Nat) : Int) := by
    have : 0 < 2 ^ m := Nat.pow_pos (by decide)
    rw [Int.natCast_sub (by omega)]
    simp
  have hp : 2 ^ m ≤ 2 ^ w := Nat.pow_le_pow_right (by decide) hm
  have hpos : 0 < 2 ^ m := Nat.pow_pos (by decide)
  rw [h2, BitVec.toNat_and, BitVec.toNat_ofInt, BitVec.toNat_ofInt]
  have e1 : ((x : Int) % ((2 ^ w : Nat) : Int)).toNat = x := by
    rw [← Int.natCast_emod, Int.toNat_natCast, Nat.mod_eq_of_lt hx]
  have e2 : (((2 ^ m - 1 : Nat) : Int) % ((2 ^ w : Nat) : Int)).toNat = 2 ^ m - 1 := by
    rw [← Int.natCast_emod, Int.toNat_natCast, Nat.mod_eq_of_lt (by omega)]
  rw [e1, e2, Nat.and_two_pow_sub_one_eq_mod]
  simp
/-- The string of a slice of bytes of one's own. -/
theorem opv_b2sO {src dst e len : Nat} {R : HProp} {u : Value} {s : ByteArray} {l : List Value} [Slc prog src e 1] [IntT prog e .u8] [Str prog dst] (hx : ev E x = some u) [hT : FOwn P e 1 u len l R] (hl : l = bts s) : OpV prog σ n E P ⟨d, .convert src dst x, ty, pos, aft, g⟩ (.string s) := fun a w ha hw => by
  subst hl
  have h1 := (Slc.spec (prog := prog) src e 1).1
  have h2 := IntT.spec (prog := prog) e .u8
  have h3 := Str.spec (prog := prog) dst
  have hw' := hw
  rw [hT.eq] at hw'
  rcases sat_own hw' with ⟨rfl, rfl, h, _⟩ | ⟨b, cap, pre, post, rfl, _, _, h4, _, h6⟩
  · refine opv_b2s hx (.inl ⟨rfl, ?_, h⟩) a w ha hw
    have := congrArg List.length h
    rwa [bts_len] at this
  · rw [bts_len, Nat.mul_one] at h4
    subst h4
    have := run_convert_bytes_back (P := prog) w src dst e (ad b pre.length) cap s.data.toList h1 h2 h3 (fun j hj => by
      have hb : (bts s)[j]? = some (.int .u8 (s.data.toList[j].toNat : Int)) := by
        unfold bts
        rw [List.getElem?_map, List.getElem?_eq_getElem hj]
        rfl
      rw [ad_add, cell_of_cel h6, mid_get _ _ _ _ (by rw [bts_len]; rw [Array.length_toList] at hj; exact hj), hb])
    rw [Array.length_toList] at this
    have this : (convert src dst (.slice (some (ad b pre.length)) s.size cap)).run prog w = .ok (.string ⟨s.data.toList.toArray⟩) w := this
    simp only [execOp, ha.ev hx, Sem.run_bind, this, Sem.run_pure, Result.andThen_ok, Array.toArray_toList]
/-- The string of such bytes. -/
def bytesL (l : List Int) : ByteArray := ⟨(l.map fun v => UInt8.ofNat v.toNat).toArray⟩
theorem bytesL_size (l : List Int) : (bytesL l).size = l.length := by
  show (l.map fun v => UInt8.ofNat v.toNat).toArray.size = _
  simp
theorem bts_bytesL : ∀ (l : List Int), (∀ v ∈ l, 0 ≤ v ∧ v < 256) → bts (bytesL l) = l.map (.int .u8)
  | l, h => by
    unfold bts bytesL
    rw [List.toList_toArray, List.map_map]
    refine List.map_congr_left fun v hv => ?_
    have := h v hv
    simp only [Function.comp_apply, UInt8.toNat_ofNat', Value.int.injEq, true_and]
    rw [Nat.mod_eq_of_lt (by omega)]
    omega
theorem opv_b2sL {src dst e b k c : Nat} {te : TypeId} {R : HProp} {cells : List Value} (l : List Int) [Slc prog src e 1] [IntT prog e .u8] [Str prog dst] (hx : ev E x = some (.slice (some (ad b 0)) k c)) [hk : Look P b cells te R] (hc : cells = l.map (.int .u8)) (hl : k = l.length) (h : ∀ v ∈ l, 0 ≤ v ∧ v < 256) :
    OpV prog σ n E P ⟨d, .convert src dst x, ty, pos, aft, g⟩ (.string (bytesL l)) := by
  subst hl
  refine opv_b2s hx ?_
  have := Src.lit (P := P) (b := b) (l := cells) (te := te) (R := R) (k := l.length) (c := c)
  rw [bts_bytesL l h, ← hc, bytesL_size]
  exact this
theorem evp_nums : ∀ (l : List (Nat × Operand)) (k : Nat) (vs : List Value), evl E (l.map (·.2)) = some vs → l.map (·.1) = List.range' k l.length → evp E l = some (nums k vs)
  | [], k, vs, h, _ => by
    simp only [List.map_nil, evl, Option.some.injEq] at h
    subst h
    rfl
  | (i, o) :: l, k, vs, h, hi => by
    simp only [List.map_cons, evl] at h
    simp only [List.map_cons, List.length_cons, List.range'_succ, List.cons.injEq] at hi
    obtain ⟨rfl, hi⟩ := hi
    split at h
    · rename_i v vs' hv hvs
      simp only [Option.some.injEq] at h
      subst h
      have := evp_nums l (i + 1) vs' hvs hi
      simp only [evp, hv, this, nums]
    · cases h
theorem opx_buildSliceL {d : Nat} {e len : Nat} {zs : List Value} {parts : Array (Nat × Operand)} {vs : List Value} [Slc prog t e 1] [Zer prog e zs] (he : evl E (parts.toList.map (·.2)) = some vs) (hi : parts.toList.map (·.1) = List.range' 0 parts.toList.length) (hl : vs.length = len) (hlen : len ≤ 16777216) (h1 : ∀ v ∈ vs, v.cells = #[v]) (hd : Nat.blt d n = true) :
    OpX prog σ n E P ⟨some d, .buildSlice t len parts, ty, pos, aft, g⟩ (fun _ : Nat => True) (fun b => (d, .slice (some (ad b 0)) len len) :: E) (fun b => (sep (cel b vs e) (P))) :=
  opx_buildSliceS (evp_nums _ 0 vs he hi) hl hlen h1 hd
/-- All of an array as a slice. -/
theorem opv_sliceA {k e m b o : Nat} [Arr prog t k e m] (hx : ev E x = some (.pointer (some (ad b o)))) : OpV prog σ n E P ⟨d, .slice t x none none none, ty, pos, aft, g⟩ (.slice (some (ad b o)) k k) := fun _ w ha _ => by
  obtain ⟨h1, i, h2, h3⟩ := Arr.spec (prog := prog) t k e m
  simp only [execOp, ha.ev hx, Option.map_none, Instr.sliceAt, Instr.sureAddr, asAddr, Sem.run_bind, run_und' h1, Result.andThen_ok, Instr.sliceBounds, Sem.run_pure, run_sizeOf' h2, h3, Nat.zero_mul, ad_add, Nat.add_zero, ite_self, Nat.sub_zero]
/-- A result that lies in a cell of one's own. -/
theorem K_ret1c {Q : Exit → Act → World → Prop} {R F : HProp} {fn : Func} {r : Tmp} {tr m b : Nat} {l : List Value} {te : TypeId} [Agg prog tr m] [hk : Look P b l te R] {X : Type} {φ : X → Prop} {val : X → Value} {Qo : X → HProp} (hr : fn.results = #[.cell r tr]) (hv : Env.get E r = some (.pointer (some (ad b 0)))) (hl : l.length = m) (x : X) (hx : φ x) (hvx : .agg l.toArray = val x) (hp : Ent P (sep (Qo x) (F))) :
    K σ n (bodyPost prog fn (Back σ φ val Qo F)) .ret E P := fun a w ha hs => by
  have hlv : (loadVar tr (ad b 0)).run prog w = .ok (.agg l.toArray) w := by
    obtain ⟨dd, i, h1, h2, h3, h4⟩ := Agg.spec (prog := prog) tr m
    have hc := run_loadCells_list (P := prog) (w := w) (ad b 0) l (fun j u hj => by rw [ad_add, Nat.zero_add]; exact Rd.look (P := P) hj σ w hs)
    simp only [loadVar, Sem.run_bind, run_isAgg' h1, h2, if_true, run_sizeOf' h3, h4, Result.andThen_ok]
    rw [← hl, hc]
    rfl
  have hg : a.tmps.getD r undef = .pointer (some (ad b 0)) := by rw [Array.getD_eq_getD_getElem?, ha.slot r _ hv]; rfl
  refine ⟨ha.defers, .agg l.toArray, ?_, x, hx, by rw [hvx], hs.ent hp⟩
  simp [results, hr, ha.slot r _ hv, asAddr, hlv]
end Go.SLA
