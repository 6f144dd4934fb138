/- Rules of a separation logic over the model, and contracts of functions of the translation; used by the texts that import this one. -/
import Derived.ScopeJumps
import Derived.Test.YtpkcniedaabpoaaGreatM3
import Derived.Test.YtpkcniedaabpoaaGreatM4
import Derived.Test.YtpkcniedaabpoaaGreatM1
import Derived.Test.YtpkcniedaabpoaaGreatM2
import Derived.Test.YtpkcniedaabpoaaGreatRows
set_option linter.unusedVariables false
set_option linter.unusedSimpArgs false
namespace Go.Proofs.YtpkcniedaabpoaaGreat
open Go.SLA
set_option maxRecDepth 100000
attribute [local irreducible] J L K QL Rg FSpec OpV OpX Rd Back
theorem shk {k : Nat} (h : k ≤ 1) : Value.int .u8 (IntKind.u8.wrap ((32 : Int) * 2 ^ (min (Int.toNat (k : Int)) IntKind.u8.bits))) = .int .u8 ((32 * (k + 1) : Nat) : Int) := by
  rcases (show k = 0 ∨ k = 1 by omega) with rfl | rfl <;> rfl
theorem Source_ok (n k : Nat) (h : n ≤ 4095) (hk : k ≤ 1) : FSpec Tryz.prog 37 #[.agg [.int .i64 (n : Nat), .int .i64 (k : Nat)].toArray] (emp) (fun _ : Unit => True) (fun _ => .tuple #[.agg #[.int .u8 2, .int .u8 0, .int .u8 0, .int .u8 ((n / 256 % 256 : Nat) : Int), .int .u8 ((n % 256 : Nat) : Int), .int .u8 ((32 * (k + 1) : Nat) : Int)], .int .i64 0]) (fun _ => emp) := by
  refine en Tryz.func37 r fun σ F=>J_emp<|sr<|lx r (opx_box (l := [.int .i64 (n : Nat), .int .i64 (k : Nat)]) r r) fun b1 _=>al r fun b2=>an r<|js<|sr ?_
  first | refine fz r ?_ | refine fy r ?_
  refine ld r r<|lv ((opv_lss r r).bool_f (by omega)) r<|ea r<|go r ?_
  first | refine fz r ?_ | refine fy r ?_
  refine go r<|ld r r<|go r<|lv ((opv_gtr r r).bool_f (by omega)) r ?_
  first | refine ea r ?_ | refine lv (opv_pick r r r) r ?_
  refine ea r<|go r ?_
  first | refine fz r ?_ | refine fy r ?_
  refine go r<|ld r r<|go r<|lv ((opv_lss r r).bool_f (by omega)) r ?_
  first | refine ea r ?_ | refine lv (opv_pick r r r) r ?_
  refine ea r<|go r ?_
  first | refine fz r ?_ | refine fy r ?_
  refine go r<|ld r r<|go r<|lv ((opv_gtr r r).bool_f (by omega)) r ?_
  first | refine ea r ?_ | refine lv (opv_pick r r r) r ?_
  refine nf r<|sk<|sr ?_
  first | refine fz r ?_ | refine fy r ?_
  refine ld r r<|lv (opv_convW r (Go.IntWalk.u64_in _ (by omega))) r<|lv ((opv_shl r r (by omega)).as (shk hk)) r<|lv (opv_buildA (pl := [(0, 1), (1, 1), (2, 1), (3, 1), (4, 1), (5, 1)]) r r) r<|al r fun b4=>?_
  refine lx r (opx_store r r r (by simp [Value.oneCell'])) fun _ _=>nr ?_
  first | refine fz r ?_ | refine fy r ?_
  refine ld r r<|cy (two_spec n (by omega)) r fun _=>L_emp<|ea r<|lv (opv_extract (v := .int .u8 ((n / 256 % 256 : Nat) : Int)) r r) r<|lv (opv_extract (v := .int .u8 ((n % 256 : Nat) : Int)) r r) r<|lv ((opv_indexAddrA r r (by decide)).as (v' := .pointer (some (ad b4 3))) r) r ?_
  refine lx r (opx_store r r r (by simp [Value.oneCell'])) fun _ _=>lv ((opv_indexAddrA r r (by decide)).as (v' := .pointer (some (ad b4 4))) r) r ?_
  refine lx r (opx_store r r r (by simp [Value.oneCell'])) fun _ _=>nr<|ls r ?_
  refine lx r (opx_store r r r (by simp [Value.oneCell'])) fun _ _=>an r<|jr ?_
  exact K_ret2c rfl rfl rfl rfl () trivial rfl Ent.take
theorem Source_bad (n k : Int) (h : ¬ (0 ≤ n ∧ n ≤ 4095 ∧ 0 ≤ k ∧ k ≤ 1)) : FSpec Tryz.prog 37 #[.agg [.int .i64 n, .int .i64 k].toArray] (emp) (fun _ : Unit => True) (fun _ => .tuple #[.agg #[.int .u8 0, .int .u8 0, .int .u8 0, .int .u8 0, .int .u8 0, .int .u8 0], .int .i64 1]) (fun _ => emp) := by
  refine en Tryz.func37 r fun σ F=>J_emp<|sr<|lx r (opx_box (l := [.int .i64 n, .int .i64 k]) r r) fun b1 _=>al r fun b2=>an r<|js<|sr ?_
  first | refine fz r ?_ | refine fy r ?_
  refine ld r r<|lv (opv_lss r r) r<|ea r ?_
  refine L_gf rfl rfl (fun h1 => ?_) (fun h1 => ?_) (fun _ h => by cases h; rfl)
  · first | refine fz r ?_ | refine fy r ?_
    refine L_gf_on h1 r r<|ld r r<|L_gf_on h1 r r<|lv (opv_gtr r r) r<|lv (opv_pick_f r h1 r) r<|ea r ?_
    refine L_gf rfl rfl (fun h2 => ?_) (fun h2 => ?_) (fun _ h => by cases h; rfl)
    · first | refine fz r ?_ | refine fy r ?_
      refine L_gf_on h2 r r<|ld r r<|L_gf_on h2 r r<|lv (opv_lss r r) r<|lv (opv_pick_f r h2 r) r<|ea r ?_
      refine L_gf rfl rfl (fun h3 => ?_) (fun h3 => ?_) (fun _ h => by cases h; rfl)
      · first | refine fz r ?_ | refine fy r ?_
        refine L_gf_on h3 r r<|ld r r<|L_gf_on h3 r r<|lv (opv_gtr r r) r<|lv (opv_pick_f r h3 r) r<|nk ?_
        refine J_cond rfl (fun h4 => ?_) (fun h4 => by exfalso; omega)
        refine sr<|lv (opv_buildA (pl := [(0, 1), (1, 1), (2, 1), (3, 1), (4, 1), (5, 1)]) r r) r ?_
        refine lx r (opx_store r r r (by simp [Value.oneCell'])) fun _ _=>an r<|jr<|kd ?_
        exact K_ret2c rfl rfl rfl rfl () trivial rfl Ent.take
      · refine L_gf_off h3 rfl rfl ?_ (fun _ h => by cases h; rfl)
        refine L_gf_off h3 rfl rfl ?_ (fun _ h => by cases h; rfl)
        refine lv (opv_pick_t r h3 r) r<|nt r<|sr<|lv (opv_buildA (pl := [(0, 1), (1, 1), (2, 1), (3, 1), (4, 1), (5, 1)]) r r) r ?_
        refine lx r (opx_store r r r (by simp [Value.oneCell'])) fun _ _=>an r<|jr<|kd ?_
        exact K_ret2c rfl rfl rfl rfl () trivial rfl Ent.take
    · refine L_gf_off h2 rfl rfl ?_ (fun _ h => by cases h; rfl)
      refine L_gf_off h2 rfl rfl ?_ (fun _ h => by cases h; rfl)
      refine lv (opv_pick_t r h2 r) r<|ea r ?_
      refine L_gskip rfl rfl rfl ?_ (fun _ h => by cases h; rfl)
      refine L_gskip rfl rfl rfl ?_ (fun _ h => by cases h; rfl)
      refine L_gskip rfl rfl rfl ?_ (fun _ h => by cases h; rfl)
      first | refine ea r ?_ | refine lv (opv_pick r r r) r ?_
      refine nt r<|sr<|lv (opv_buildA (pl := [(0, 1), (1, 1), (2, 1), (3, 1), (4, 1), (5, 1)]) r r) r ?_
      refine lx r (opx_store r r r (by simp [Value.oneCell'])) fun _ _=>an r<|jr<|kd ?_
      exact K_ret2c rfl rfl rfl rfl () trivial rfl Ent.take
  · refine L_gf_off h1 rfl rfl ?_ (fun _ h => by cases h; rfl)
    refine L_gf_off h1 rfl rfl ?_ (fun _ h => by cases h; rfl)
    refine lv (opv_pick_t r h1 r) r<|ea r ?_
    refine L_gskip rfl rfl rfl ?_ (fun _ h => by cases h; rfl)
    refine L_gskip rfl rfl rfl ?_ (fun _ h => by cases h; rfl)
    refine L_gskip rfl rfl rfl ?_ (fun _ h => by cases h; rfl)
    first | refine ea r ?_ | refine lv (opv_pick r r r) r ?_
    refine ea r ?_
    refine L_gskip rfl rfl rfl ?_ (fun _ h => by cases h; rfl)
    refine L_gskip rfl rfl rfl ?_ (fun _ h => by cases h; rfl)
    refine L_gskip rfl rfl rfl ?_ (fun _ h => by cases h; rfl)
    first | refine ea r ?_ | refine lv (opv_pick r r r) r ?_
    refine nt r<|sr<|lv (opv_buildA (pl := [(0, 1), (1, 1), (2, 1), (3, 1), (4, 1), (5, 1)]) r r) r ?_
    refine lx r (opx_store r r r (by simp [Value.oneCell'])) fun _ _=>an r<|jr<|kd ?_
    exact K_ret2c rfl rfl rfl rfl () trivial rfl Ent.take
theorem Part_ok (n k : Nat) (h : n ≤ 4095) (hk : k ≤ 255) : FSpec Tryz.prog 5 #[.int .i64 (n : Nat), .int .i64 (k : Nat)] (emp) (fun _ : Unit => True) (fun _ => .tuple #[.agg #[.int .u8 10, .int .u8 ((n / 256 % 256 : Nat) : Int), .int .u8 ((n % 256 : Nat) : Int), .int .u8 ((k : Nat) : Int)], .int .i64 0]) (fun _ => emp) := by
  refine en Tryz.func5 r fun σ F=>J_emp<|sr<|al r fun b4=>an r<|js<|sa r<|lv ((opv_lss r r).bool_f (by omega)) r<|ea r<|go r<|ea r<|go r<|lv ((opv_gtr r r).bool_f (by omega)) r ?_
  first | refine ea r ?_ | refine lv (opv_pick r r r) r ?_
  refine ea r<|go r<|ea r<|go r<|lv ((opv_lss r r).bool_f (by omega)) r ?_
  first | refine ea r ?_ | refine lv (opv_pick r r r) r ?_
  refine ea r<|go r<|ea r<|go r<|lv ((opv_gtr r r).bool_f (by omega)) r ?_
  first | refine ea r ?_ | refine lv (opv_pick r r r) r ?_
  refine nf r<|sk<|sa r<|lv (opv_convW r (Go.IntWalk.u8_in _ (by omega))) r<|lv (opv_buildA (pl := [(0, 1), (1, 1), (2, 1), (3, 1)]) r r) r<|al r fun b6=>?_
  refine lx r (opx_store r r r (by simp [Value.oneCell'])) fun _ _=>nr<|ea r<|cy (two_spec n (by omega)) r fun _=>L_emp<|ea r<|lv (opv_extract (v := .int .u8 ((n / 256 % 256 : Nat) : Int)) r r) r<|lv (opv_extract (v := .int .u8 ((n % 256 : Nat) : Int)) r r) r<|lv ((opv_indexAddrA r r (by decide)).as (v' := .pointer (some (ad b6 1))) r) r ?_
  refine lx r (opx_store r r r (by simp [Value.oneCell'])) fun _ _=>lv ((opv_indexAddrA r r (by decide)).as (v' := .pointer (some (ad b6 2))) r) r ?_
  refine lx r (opx_store r r r (by simp [Value.oneCell'])) fun _ _=>nr<|ls r ?_
  refine lx r (opx_store r r r (by simp [Value.oneCell'])) fun _ _=>an r<|jr ?_
  exact K_ret2c rfl rfl rfl rfl () trivial rfl Ent.take
theorem Part_bad (n k : Int) (h : ¬ (0 ≤ n ∧ n ≤ 4095 ∧ 0 ≤ k ∧ k ≤ 255)) : FSpec Tryz.prog 5 #[.int .i64 n, .int .i64 k] (emp) (fun _ : Unit => True) (fun _ => .tuple #[.agg #[.int .u8 0, .int .u8 0, .int .u8 0, .int .u8 0], .int .i64 1]) (fun _ => emp) := by
  refine en Tryz.func5 r fun σ F=>J_emp<|sr<|al r fun b4=>an r<|js<|sa r<|lv (opv_lss r r) r<|ea r ?_
  refine L_gf rfl rfl (fun h1 => ?_) (fun h1 => ?_) (fun _ h => by cases h; rfl)
  · refine ea r<|L_gf_on h1 r r<|lv (opv_gtr r r) r<|lv (opv_pick_f r h1 r) r<|ea r ?_
    refine L_gf rfl rfl (fun h2 => ?_) (fun h2 => ?_) (fun _ h => by cases h; rfl)
    · refine ea r<|L_gf_on h2 r r<|lv (opv_lss r r) r<|lv (opv_pick_f r h2 r) r<|ea r ?_
      refine L_gf rfl rfl (fun h3 => ?_) (fun h3 => ?_) (fun _ h => by cases h; rfl)
      · refine ea r<|L_gf_on h3 r r<|lv (opv_gtr r r) r<|lv (opv_pick_f r h3 r) r<|nk ?_
        refine J_cond rfl (fun h4 => ?_) (fun h4 => by exfalso; omega)
        refine sr<|lv (opv_buildA (pl := [(0, 1), (1, 1), (2, 1), (3, 1)]) r r) r ?_
        refine lx r (opx_store r r r (by simp [Value.oneCell'])) fun _ _=>an r<|jr<|kd ?_
        exact K_ret2c rfl rfl rfl rfl () trivial rfl Ent.take
      · refine L_gf_off h3 rfl rfl ?_ (fun _ h => by cases h; rfl)
        refine lv (opv_pick_t r h3 r) r<|nt r<|sr<|lv (opv_buildA (pl := [(0, 1), (1, 1), (2, 1), (3, 1)]) r r) r ?_
        refine lx r (opx_store r r r (by simp [Value.oneCell'])) fun _ _=>an r<|jr<|kd ?_
        exact K_ret2c rfl rfl rfl rfl () trivial rfl Ent.take
    · refine L_gf_off h2 rfl rfl ?_ (fun _ h => by cases h; rfl)
      refine lv (opv_pick_t r h2 r) r<|ea r ?_
      refine L_gskip rfl rfl rfl ?_ (fun _ h => by cases h; rfl)
      refine L_gskip rfl rfl rfl ?_ (fun _ h => by cases h; rfl)
      first | refine ea r ?_ | refine lv (opv_pick r r r) r ?_
      refine nt r<|sr<|lv (opv_buildA (pl := [(0, 1), (1, 1), (2, 1), (3, 1)]) r r) r ?_
      refine lx r (opx_store r r r (by simp [Value.oneCell'])) fun _ _=>an r<|jr<|kd ?_
      exact K_ret2c rfl rfl rfl rfl () trivial rfl Ent.take
  · refine L_gf_off h1 rfl rfl ?_ (fun _ h => by cases h; rfl)
    refine lv (opv_pick_t r h1 r) r<|ea r ?_
    refine L_gskip rfl rfl rfl ?_ (fun _ h => by cases h; rfl)
    refine L_gskip rfl rfl rfl ?_ (fun _ h => by cases h; rfl)
    first | refine ea r ?_ | refine lv (opv_pick r r r) r ?_
    refine ea r ?_
    refine L_gskip rfl rfl rfl ?_ (fun _ h => by cases h; rfl)
    refine L_gskip rfl rfl rfl ?_ (fun _ h => by cases h; rfl)
    first | refine ea r ?_ | refine lv (opv_pick r r r) r ?_
    refine nt r<|sr<|lv (opv_buildA (pl := [(0, 1), (1, 1), (2, 1), (3, 1)]) r r) r ?_
    refine lx r (opx_store r r r (by simp [Value.oneCell'])) fun _ _=>an r<|jr<|kd ?_
    exact K_ret2c rfl rfl rfl rfl () trivial rfl Ent.take
end Go.Proofs.YtpkcniedaabpoaaGreat
namespace Go.Proofs.YtpkcniedaabpoaaGreat
open Go.SLA
set_option maxRecDepth 100000
attribute [local irreducible] J L K QL Rg FSpec OpV OpX Rd Back
end Go.Proofs.YtpkcniedaabpoaaGreat
namespace Go.Proofs.YtpkcniedaabpoaaGreat
open Go.SLA
set_option maxRecDepth 100000
attribute [local irreducible] J L K QL Rg FSpec OpV OpX Rd Back
def enc8 (w : Nat) : Value := .int .u8 (w : Nat)
section
variable {prog : Program} {σ : World} {n : Nat} {E : Env} {P R : HProp}
/-- A store over a whole block. -/
theorem opx_storeW {ty : TypeId} {pos : String} {aft : Array Edge} {g : Option (Nat × Bool)} {x y : Operand} {t te m b : Nat} {v : Value} {l vs : List Value} [Siz prog t m] (hx : ev E x = some (.pointer (some (ad b 0)))) (hy : ev E y = some v) [hc : Cel v vs] (hl : vs.length = m) (h1 : ∀ u ∈ vs, u.oneCell' = true) [hk : Look P b l te R] (hm : l.length = m) :
    OpX prog σ n E P ⟨none, .store t x y, ty, pos, aft, g⟩ (fun _ : Unit => True) (fun _ => E) (fun _ => (sep (cel b vs te) (R))) :=
  opx_storeAt hx hy hl h1 (by rw [hl, hm, Nat.zero_add]; exact Nat.le_refl _) (by
    rw [List.take_zero, List.nil_append, List.drop_eq_nil_of_le (by rw [hl, hm, Nat.zero_add]; exact Nat.le_refl _), List.append_nil])
theorem opv_loadW {d : Option Tmp} {ty : TypeId} {pos : String} {aft : Array Edge} {g : Option (Nat × Bool)} {x : Operand} {t b m : Nat} {vs : List Value} {te : TypeId} [Agg prog t m] (hx : ev E x = some (.pointer (some (ad b 0)))) [Look P b vs te R] (hl : vs.length = m) :
    OpV prog σ n E P ⟨d, .load t x, ty, pos, aft, g⟩ (.agg vs.toArray) := opv_loadN hx hl fun j u hj => Rd.look (by rw [Nat.zero_add]; exact hj)
end
/-- Bytes. -/
def Bys (k : Nat) (l : List Nat) : Prop := l.length = k ∧ ∀ w ∈ l, w < 256
def ag (l : List Nat) : Value := .agg (l.map enc8).toArray
instance {l : List Nat} : Cel (ag l) (l.map enc8) := inferInstanceAs (Cel (.agg (l.map enc8).toArray) (l.map enc8))
theorem enc8_one (l : List Nat) : ∀ u ∈ l.map enc8, u.oneCell' = true := by
  intro u hu
  obtain ⟨_, _, rfl⟩ := List.mem_map.1 hu
  rfl
theorem enc8_len {l : List Nat} {k : Nat} (h : Bys k l) : (l.map enc8).length = k := by rw [List.length_map, h.1]
def tx (l : List Nat) : ByteArray := bytesL (l.map fun w => ((w : Nat) : Int))
theorem Bys.cons {l : List Nat} {k : Nat} (h : Bys (k + 1) l) : ∃ w l', l = w :: l' ∧ w < 256 ∧ Bys k l' := by
  obtain ⟨h1, h2⟩ := h
  match l, h1 with
  | w :: l', h1 => exact ⟨w, l', rfl, h2 w List.mem_cons_self, by simpa using h1, fun x hx => h2 x (List.mem_cons_of_mem _ hx)⟩
theorem Bys.six {l : List Nat} (h : Bys 6 l) : ∃ a b c d e f, l = [a, b, c, d, e, f] ∧ a < 256 ∧ b < 256 ∧ c < 256 ∧ d < 256 ∧ e < 256 ∧ f < 256 := by
  obtain ⟨a, _, rfl, ha, h⟩ := h.cons
  obtain ⟨b, _, rfl, hb, h⟩ := h.cons
  obtain ⟨c, _, rfl, hc, h⟩ := h.cons
  obtain ⟨d, _, rfl, hd, h⟩ := h.cons
  obtain ⟨e, _, rfl, he, h⟩ := h.cons
  obtain ⟨f, l, rfl, hf, h⟩ := h.cons
  obtain rfl := List.eq_nil_of_length_eq_zero h.1
  exact ⟨a, b, c, d, e, f, rfl, ha, hb, hc, hd, he, hf⟩
def lnk (n : Int) : List Nat × Int := if 1 ≤ n ∧ n ≤ 65535 then ([3, 0, 0, 0, n.toNat / 256 % 256, n.toNat % 256], 0) else ([0, 0, 0, 0, 0, 0], 1)
def sou (n k : Int) : List Nat × Int := if 0 ≤ n ∧ n ≤ 4095 ∧ 0 ≤ k ∧ k ≤ 1 then ([2, 0, 0, n.toNat / 256 % 256, n.toNat % 256, 32 * (k.toNat + 1)], 0) else ([0, 0, 0, 0, 0, 0], 1)
def prtA (n k : Int) : List Nat × Int := if 0 ≤ n ∧ n ≤ 4095 ∧ 0 ≤ k ∧ k ≤ 255 then ([10, n.toNat / 256 % 256, n.toNat % 256, k.toNat], 0) else ([0, 0, 0, 0], 1)
def grp (n : Int) : List Nat × Int := if 1 ≤ n ∧ n ≤ 65535 then ([224, 224, n.toNat / 256 % 256, n.toNat % 256], 0) else ([0, 0, 0, 0], 1)
/-- An address, or, with an error, none. -/
def Adr (k : Nat) (p : List Nat × Int) : Prop := Bys k p.1 ∧ (p.2 = 0 ∨ p.2 = 1 ∧ p.1 = List.replicate k 0)
theorem bys6 {a b c d e f : Nat} (h : a < 256 ∧ b < 256 ∧ c < 256 ∧ d < 256 ∧ e < 256 ∧ f < 256) : Bys 6 [a, b, c, d, e, f] := ⟨rfl, by simpa using h⟩
theorem bys4 {a b c d : Nat} (h : a < 256 ∧ b < 256 ∧ c < 256 ∧ d < 256) : Bys 4 [a, b, c, d] := ⟨rfl, by simpa using h⟩
theorem lnk_adr (n : Int) : Adr 6 (lnk n) := by
  unfold lnk; split
  · exact ⟨bys6 (by omega), .inl rfl⟩
  · exact ⟨bys6 (by omega), .inr ⟨rfl, rfl⟩⟩
theorem sou_adr (n k : Int) : Adr 6 (sou n k) := by
  unfold sou; split
  · exact ⟨bys6 (by omega), .inl rfl⟩
  · exact ⟨bys6 (by omega), .inr ⟨rfl, rfl⟩⟩
theorem prt_adr (n k : Int) : Adr 4 (prtA n k) := by
  unfold prtA; split
  · exact ⟨bys4 (by omega), .inl rfl⟩
  · exact ⟨bys4 (by omega), .inr ⟨rfl, rfl⟩⟩
theorem grp_adr (n : Int) : Adr 4 (grp n) := by
  unfold grp; split
  · exact ⟨bys4 (by omega), .inl rfl⟩
  · exact ⟨bys4 (by omega), .inr ⟨rfl, rfl⟩⟩
def at2 (p : List Nat × Int) : Value := .tuple #[ag p.1, .int .i64 p.2]
theorem nat_of {n : Int} (h : 0 ≤ n) : ∃ m : Nat, n = (m : Int) := ⟨n.toNat, by omega⟩
theorem Link_any (n : Int) : FSpec Tryz.prog 36 #[.int .i64 n] emp (fun _ : Unit => True) (fun _ => at2 (lnk n)) (fun _ => emp) := by
  by_cases h : 1 ≤ n ∧ n ≤ 65535
  · obtain ⟨m, rfl⟩ := nat_of (n := n) (by omega)
    unfold lnk; rw [if_pos h]; exact Link_ok m (by omega)
  · unfold lnk; rw [if_neg h]; exact Link_bad n h
theorem Group_any (n : Int) : FSpec Tryz.prog 6 #[.int .i64 n] emp (fun _ : Unit => True) (fun _ => at2 (grp n)) (fun _ => emp) := by
  by_cases h : 1 ≤ n ∧ n ≤ 65535
  · obtain ⟨m, rfl⟩ := nat_of (n := n) (by omega)
    unfold grp; rw [if_pos h]; exact Group_ok m (by omega)
  · unfold grp; rw [if_neg h]; exact Group_bad n h
theorem Source_any (n k : Int) : FSpec Tryz.prog 37 #[.agg [.int .i64 n, .int .i64 k].toArray] emp (fun _ : Unit => True) (fun _ => at2 (sou n k)) (fun _ => emp) := by
  by_cases h : 0 ≤ n ∧ n ≤ 4095 ∧ 0 ≤ k ∧ k ≤ 1
  · obtain ⟨m, rfl⟩ := nat_of (n := n) (by omega)
    obtain ⟨q, rfl⟩ := nat_of (n := k) (by omega)
    unfold sou; rw [if_pos h]; exact Source_ok m q (by omega) (by omega)
  · unfold sou; rw [if_neg h]; exact Source_bad n k h
theorem Part_any (n k : Int) : FSpec Tryz.prog 5 #[.int .i64 n, .int .i64 k] emp (fun _ : Unit => True) (fun _ => at2 (prtA n k)) (fun _ => emp) := by
  by_cases h : 0 ≤ n ∧ n ≤ 4095 ∧ 0 ≤ k ∧ k ≤ 255
  · obtain ⟨m, rfl⟩ := nat_of (n := n) (by omega)
    obtain ⟨q, rfl⟩ := nat_of (n := k) (by omega)
    unfold prtA; rw [if_pos h]; exact Part_ok m q (by omega) (by omega)
  · unfold prtA; rw [if_neg h]; exact Part_bad n k h
end Go.Proofs.YtpkcniedaabpoaaGreat
namespace Go.Proofs.YtpkcniedaabpoaaGreat
open Go.SLA
set_option maxRecDepth 100000
attribute [local irreducible] J L K QL Rg FSpec OpV OpX Rd Back
section
variable {prog : Program} {σ : World} {n : Nat} {E : Env} {P R F : HProp}
theorem results_tmp4 {fn : Func} {t u s r : Tmp} (h : fn.results = #[.tmp t, .tmp u, .tmp s, .tmp r]) (tmps : Array Value) (P : Program) (w : World) :
    (results fn tmps).run P w = .ok (.tuple #[tmps.getD t undef, tmps.getD u undef, tmps.getD s undef, tmps.getD r undef]) w := by
  simp [results, h]
end
def num2 (a b : Nat) : Nat := 256 * a + b
theorem or8 {a b : Nat} (ha : a < 256) (hb : b < 256) : Value.int .i64 (IntKind.i64.wrap ((BitVec.ofInt IntKind.i64.bits ((256 * a : Nat) : Int) ||| BitVec.ofInt IntKind.i64.bits ((b : Nat) : Int)).toNat : Int)) = .int .i64 ((num2 a b : Nat) : Int) := by
  rw [show IntKind.i64.bits = 64 from rfl, BitVec.ofInt_natCast, BitVec.ofInt_natCast, BitVec.toNat_or, BitVec.toNat_ofNat, BitVec.toNat_ofNat, Nat.mod_eq_of_lt (by omega), Nat.mod_eq_of_lt (by omega)]
  have h := Nat.shiftLeft_add_eq_or_of_lt (i := 8) (b := b) (by omega) a
  rw [Nat.shiftLeft_eq, show a * 2 ^ 8 = 256 * a by omega] at h
  rw [← h, wrap_i64 (by omega)]
  rfl
theorem map8_inj {l r : List Nat} (h : l.map enc8 = r.map enc8) : l = r := by
  refine List.map_inj_right ?_ |>.1 h
  intro a b hab
  simp only [enc8, Value.int.injEq, true_and] at hab
  omega
theorem tx_size (l : List Nat) : (tx l).size = l.length := by unfold tx; rw [bytesL_size, List.length_map]
theorem byt_tx {l : List Nat} {i w : Nat} (h : l[i]? = some w) (hw : w < 256) : byt (tx l) i = (w : Int) := by
  unfold byt tx bytesL
  simp only [List.map_map, List.getD_eq_getElem?_getD, List.getElem?_map, h, Option.map_some, Option.getD_some, Function.comp_apply, Int.toNat_natCast]
  rw [show (UInt8.ofNat w).toNat = w from by rw [UInt8.toNat_ofNat']; omega]
theorem shape6 {l : List Nat} (h : Bys 6 l) : Shape [.int .u8, .int .u8, .int .u8, .int .u8, .int .u8, .int .u8] (l.map enc8) := by
  obtain ⟨a, b, c, d, e, f, rfl, _⟩ := h.six
  simp [Shape, CK.sh, enc8]
section
variable {p : List Nat × Int} {l : List Nat} {k : Nat}
theorem yes_n (h1 : ¬ p.2 ≠ 0) (h2 : ¬ (p.1 ≠ l)) : p = (l, 0) := Prod.ext (Classical.not_not.1 h2) (Classical.not_not.1 h1)
theorem no_n (h : p.2 ≠ 0 ∨ p.1 ≠ l) : p ≠ (l, 0) := by rintro rfl; simp at h
open Classical in
theorem ne8 {l r : List Nat} : Value.bool (decide (l.map enc8 ≠ r.map enc8)) = .bool (@decide (l ≠ r) instDecidableNot) := congrArg _ (decide_eq_decide.2 ⟨fun h e => h (by rw [e]), fun h e => h (map8_inj e)⟩)
end
/-- What is told by an address. -/
def vlP (l : List Nat) (v : Nat) : Int × Int := if lnk v = (l, 0) then ((v : Nat), 0) else (0, 14)
theorem vlP_yes {l : List Nat} {v : Nat} (h : lnk v = (l, 0)) : vlP l v = (((v : Nat) : Int), 0) := if_pos h
theorem vlP_no {l : List Nat} {v : Nat} (h : lnk v ≠ (l, 0)) : vlP l v = (0, 14) := if_neg h
def ofP (l : List Nat) (n : Nat) (k : Int) : Int × Int × Int := if sou n k = (l, 0) then ((n : Nat), k, 0) else (0, 0, 14)
theorem ofP_yes {l : List Nat} {n : Nat} {k : Int} (h : sou n k = (l, 0)) : ofP l n k = (((n : Nat) : Int), k, 0) := if_pos h
theorem ofP_no {l : List Nat} {n : Nat} {k : Int} (h : sou n k ≠ (l, 0)) : ofP l n k = (0, 0, 14) := if_neg h
theorem one_any (a b : Nat) (ha : a < 256) (hb : b < 256) : FSpec Tryz.prog 114 #[.int .u8 (a : Nat), .int .u8 (b : Nat)] (emp) (fun _ : Unit => True) (fun _ => .int .i64 ((num2 a b : Nat) : Int)) (fun _ => emp) := by
  refine en Tryz.func114 r fun σ F=>san r<|sa r<|lv ((opv_convW r (Go.IntWalk.i64_in _ (by omega))).as (v' := .int .i64 ((a : Nat) : Int)) r) r<|lv ((opv_shl r r (by decide)).as (v' := .int .i64 ((256 * a : Nat) : Int)) (congrArg (Value.int .i64) (by show IntKind.i64.wrap ((a : Int) * 256) = _; rw [wrap_i64 (by omega)]; omega))) r<|ea r<|lv ((opv_convW r (Go.IntWalk.i64_in _ (by omega))).as (v' := .int .i64 ((b : Nat) : Int)) r) r<|lv ((opv_or r r).as (or8 ha hb)) r<|an r<|jr ?_
  exact K_ret1 rfl rfl () trivial (rfl) (Ent.refl _)
theorem VL_any (a b c d e f : Nat) (hb : Bys 6 [a, b, c, d, e, f]) : FSpec Tryz.prog 75 #[ag [a, b, c, d, e, f]] (emp) (fun _ : Unit => True) (fun _ => .tuple #[.int .i64 (vlP [a, b, c, d, e, f] (num2 e f)).1, .int .i64 (vlP [a, b, c, d, e, f] (num2 e f)).2]) (fun _ => emp) := by
  refine en Tryz.func75 r fun σ F=>J_emp ?_
  have hq : a < 256 ∧ b < 256 ∧ c < 256 ∧ d < 256 ∧ e < 256 ∧ f < 256 := by have := hb.2; simp at this; omega
  refine sr<|lx r (opx_box (l := [a, b, c, d, e, f].map enc8) r r) fun b1 _=>eb r<|nr<|lv ((opv_indexAddrA r r (by decide)).as (v' := .pointer (some (ad b1 4))) r) r<|lv (opv_load (v := .int .u8 ((e : Nat) : Int)) r (Rd.look r)) r<|lv ((opv_indexAddrA r r (by decide)).as (v' := .pointer (some (ad b1 5))) r) r<|lv (opv_load (v := .int .u8 ((f : Nat) : Int)) r (Rd.look r)) r<|cy (one_any e f (by omega) (by omega)) r fun _=>L_emp<|an r<|js<|sa r<|cy (Link_any (num2 e f)) r fun _=>L_emp<|ea r ?_
  refine lv (opv_extract (v := ag (lnk (num2 e f)).1) r r) r<|lv (opv_extract (v := .int .i64 (lnk (num2 e f)).2) r r) r<|al r fun b5=>?_
  refine lx r (opx_storeW (m := 6) r r (enc8_len (lnk_adr (num2 e f)).1) (enc8_one _) r) fun _ _=>an r<|sa r ?_
  first | refine lv (opv_neq r r) r ?_ | refine lv (opv_neqS r r) r ?_ | refine lv (opv_neqNil r r) r ?_ | refine lv (opv_neqB r r) r ?_
  refine ea r ?_
  refine L_gf rfl rfl (fun h1 => ?_) (fun h1 => ?_) (fun _ h => by cases h; rfl)
  · refine lv (opv_loadW r (enc8_len (lnk_adr (num2 e f)).1)) r<|L_gf_on h1 r r<|lv (opv_loadW r r) r<|L_gf_on h1 r r<|lv ((opv_neqF r r (shape6 (lnk_adr (num2 e f)).1) (shape6 hb)).as ne8) r<|lv (opv_pick_f r h1 r) r<|nk ?_
    refine J_cond rfl (fun h2 => ?_) (fun h2 => ?_)
    · refine sb r<|nk<|jr<|kd ?_
      exact K_ret2 rfl rfl rfl () trivial (by rw [vlP_no (no_n (by first | exact .inl (by assumption) | exact .inr (by assumption)))]) Ent.take
    · refine sk<|sr<|ec r<|nk<|jr ?_
      exact K_ret2 rfl rfl rfl () trivial (by rw [vlP_yes (yes_n (by assumption) (by assumption))]) Ent.take
  · refine L_gf_off h1 rfl rfl ?_ (fun _ h => by cases h; rfl)
    refine L_gf_off h1 rfl rfl ?_ (fun _ h => by cases h; rfl)
    refine lv (opv_pick_t r h1 r) r<|nt r<|sb r<|nk<|jr<|kd ?_
    exact K_ret2 rfl rfl rfl () trivial (by rw [vlP_no (no_n (by first | exact .inl (by assumption) | exact .inr (by assumption)))]) Ent.take
theorem q32 {w : Nat} (h : w < 256) : Value.int .u8 (IntKind.u8.wrap (Int.tdiv (w : Int) 32)) = .int .u8 ((w / 32 : Nat) : Int) := by
  rw [Int.tdiv_eq_ediv_of_nonneg (by omega), IntKind.wrap_u8]
  exact congrArg _ (by omega)
theorem Of_any (a b c d e f : Nat) (hb : Bys 6 [a, b, c, d, e, f]) : FSpec Tryz.prog 76 #[ag [a, b, c, d, e, f]] (emp) (fun _ : Unit => True) (fun _ => .tuple #[.agg [.int .i64 (ofP [a, b, c, d, e, f] (num2 d e) (((f / 32 : Nat) : Int) - 1)).1, .int .i64 (ofP [a, b, c, d, e, f] (num2 d e) (((f / 32 : Nat) : Int) - 1)).2.1].toArray, .int .i64 (ofP [a, b, c, d, e, f] (num2 d e) (((f / 32 : Nat) : Int) - 1)).2.2]) (fun _ => emp) := by
  refine en Tryz.func76 r fun σ F=>J_emp ?_
  have hq : a < 256 ∧ b < 256 ∧ c < 256 ∧ d < 256 ∧ e < 256 ∧ f < 256 := by have := hb.2; simp at this; omega
  refine sr<|lx r (opx_box (l := [a, b, c, d, e, f].map enc8) r r) fun b1 _=>al r fun b2=>an r<|js<|J_steps (cel b1 ([a, b, c, d, e, f].map enc8) 102) (cel b1 ([a, b, c, d, e, f].map enc8) 102) [] Tryz.mixed<|ps 0 r ((opv_indexAddrA r r (by decide)).as (v' := .pointer (some (ad b1 3))) r)<|R_ts 1 r (by kernel_rfl) (opv_load (v := .int .u8 ((d : Nat) : Int)) r (Rd.look r)) r<|ps 2 r ((opv_indexAddrA r r (by decide)).as (v' := .pointer (some (ad b1 4))) r)<|R_ts 3 r (by kernel_rfl) (opv_load (v := .int .u8 ((e : Nat) : Int)) r (Rd.look r)) r<|ps 5 r ((opv_indexAddrA r r (by decide)).as (v' := .pointer (some (ad b1 5))) r)<|R_ts 6 r (by kernel_rfl) (opv_load (v := .int .u8 ((f : Nat) : Int)) r (Rd.look r)) r<|ps 7 r ((opv_quo r r (by decide)).as (q32 (by omega)))<|ps 8 r ((opv_convW r (Go.IntWalk.i64_in _ (by omega))).as (v' := .int .i64 ((f / 32 : Nat) : Int)) r)<|ps 9 r ((opv_sub64 r r (by omega))) ?_
  refine R_all [4, 11] (by kernel_rfl) rfl fun i hi => ?_
  simp only [List.mem_cons, List.not_mem_nil, or_false] at hi
  rcases hi with rfl | rfl
  · refine ⟨_, _, _, _, _, rfl, rfl, (opx_call0 (one_any d e (by omega) (by omega)) rfl rfl rfl), fun _ _ => ⟨⟨_, Take.eq (A := cel b1 ([a, b, c, d, e, f].map enc8) 102)⟩, .inr ⟨_, Take.eq (A := cel b1 ([a, b, c, d, e, f].map enc8) 102)⟩, ?_⟩⟩
    refine Rg_emp<|ps 10 r (opv_build r)<|pn 11 r (opx_alloc r) fun b4 _=>?_
    refine pn 12 r (opx_store r r r (by simp [Value.oneCell'])) fun _ _=>dn<|kt<|js<|sr<|ls r<|cy (Source_any (num2 d e : Nat) (((f / 32 : Nat) : Int) - 1)) r fun _=>L_emp<|ea r<|lv (opv_extract (v := ag (sou (num2 d e : Nat) (((f / 32 : Nat) : Int) - 1)).1) r r) r<|lv (opv_extract (v := .int .i64 (sou (num2 d e : Nat) (((f / 32 : Nat) : Int) - 1)).2) r r) r<|al r fun b5=>?_
    refine lx r (opx_storeW (m := 6) r r (enc8_len (sou_adr (num2 d e : Nat) (((f / 32 : Nat) : Int) - 1)).1) (enc8_one _) r) fun _ _=>an r<|sa r ?_
    first | refine lv (opv_neq r r) r ?_ | refine lv (opv_neqS r r) r ?_ | refine lv (opv_neqNil r r) r ?_ | refine lv (opv_neqB r r) r ?_
    refine ea r ?_
    refine L_gf rfl rfl (fun h1 => ?_) (fun h1 => ?_) (fun _ h => by cases h; rfl)
    · refine lv (opv_loadW r (enc8_len (sou_adr _ _).1)) r<|L_gf_on h1 r r<|lv (opv_loadW r r) r<|L_gf_on h1 r r<|lv ((opv_neqF r r (shape6 (sou_adr _ _).1) (shape6 hb)).as ne8) r<|lv (opv_pick_f r h1 r) r<|nk ?_
      refine J_cond rfl (fun h2 => ?_) (fun h2 => ?_)
      · refine sr<|lv (opv_build r) r ?_
        refine lx r (opx_store r r r (by simp [Value.oneCell'])) fun _ _=>an r<|jr<|kd ?_
        exact K_ret2c rfl rfl rfl rfl () trivial (by rw [ofP_no (no_n (by first | exact .inl (by assumption) | exact .inr (by assumption)))]) Ent.take
      · refine sk<|sr<|ls r ?_
        refine lx r (opx_store r r r (by simp [Value.oneCell'])) fun _ _=>an r<|jr ?_
        exact K_ret2c rfl rfl rfl rfl () trivial (by rw [ofP_yes (yes_n (by assumption) (by assumption))]) Ent.take
    · refine L_gf_off h1 rfl rfl ?_ (fun _ h => by cases h; rfl)
      refine L_gf_off h1 rfl rfl ?_ (fun _ h => by cases h; rfl)
      refine lv (opv_pick_t r h1 r) r<|nt r<|sr<|lv (opv_build r) r ?_
      refine lx r (opx_store r r r (by simp [Value.oneCell'])) fun _ _=>an r<|jr<|kd ?_
      exact K_ret2c rfl rfl rfl rfl () trivial (by rw [ofP_no (no_n (by first | exact .inl (by assumption) | exact .inr (by assumption)))]) Ent.take
  · refine ⟨_, _, _, _, _, rfl, rfl, (opx_alloc rfl), fun b4 _ => ⟨⟨_, Take.eq (A := cel b1 ([a, b, c, d, e, f].map enc8) 102)⟩, .inr ⟨_, Take.eq (A := cel b1 ([a, b, c, d, e, f].map enc8) 102)⟩, ?_⟩⟩
    refine pn 4 r (opx_call0 (one_any d e (by omega) (by omega)) r r r) fun _ _=>Rg_emp<|ps 10 r (opv_build r) ?_
    refine pn 12 r (opx_store r r r (by simp [Value.oneCell'])) fun _ _=>dn<|kt<|js<|sr<|ls r<|cy (Source_any (num2 d e : Nat) (((f / 32 : Nat) : Int) - 1)) r fun _=>L_emp<|ea r<|lv (opv_extract (v := ag (sou (num2 d e : Nat) (((f / 32 : Nat) : Int) - 1)).1) r r) r<|lv (opv_extract (v := .int .i64 (sou (num2 d e : Nat) (((f / 32 : Nat) : Int) - 1)).2) r r) r<|al r fun b5=>?_
    refine lx r (opx_storeW (m := 6) r r (enc8_len (sou_adr (num2 d e : Nat) (((f / 32 : Nat) : Int) - 1)).1) (enc8_one _) r) fun _ _=>an r<|sa r ?_
    first | refine lv (opv_neq r r) r ?_ | refine lv (opv_neqS r r) r ?_ | refine lv (opv_neqNil r r) r ?_ | refine lv (opv_neqB r r) r ?_
    refine ea r ?_
    refine L_gf rfl rfl (fun h3 => ?_) (fun h3 => ?_) (fun _ h => by cases h; rfl)
    · refine lv (opv_loadW r (enc8_len (sou_adr _ _).1)) r<|L_gf_on h3 r r<|lv (opv_loadW r r) r<|L_gf_on h3 r r<|lv ((opv_neqF r r (shape6 (sou_adr _ _).1) (shape6 hb)).as ne8) r<|lv (opv_pick_f r h3 r) r<|nk ?_
      refine J_cond rfl (fun h4 => ?_) (fun h4 => ?_)
      · refine sr<|lv (opv_build r) r ?_
        refine lx r (opx_store r r r (by simp [Value.oneCell'])) fun _ _=>an r<|jr<|kd ?_
        exact K_ret2c rfl rfl rfl rfl () trivial (by rw [ofP_no (no_n (by first | exact .inl (by assumption) | exact .inr (by assumption)))]) Ent.take
      · refine sk<|sr<|ls r ?_
        refine lx r (opx_store r r r (by simp [Value.oneCell'])) fun _ _=>an r<|jr ?_
        exact K_ret2c rfl rfl rfl rfl () trivial (by rw [ofP_yes (yes_n (by assumption) (by assumption))]) Ent.take
    · refine L_gf_off h3 rfl rfl ?_ (fun _ h => by cases h; rfl)
      refine L_gf_off h3 rfl rfl ?_ (fun _ h => by cases h; rfl)
      refine lv (opv_pick_t r h3 r) r<|nt r<|sr<|lv (opv_build r) r ?_
      refine lx r (opx_store r r r (by simp [Value.oneCell'])) fun _ _=>an r<|jr<|kd ?_
      exact K_ret2c rfl rfl rfl rfl () trivial (by rw [ofP_no (no_n (by first | exact .inl (by assumption) | exact .inr (by assumption)))]) Ent.take
section
variable {prog : Program} {σ : World} {n : Nat} {E : Env} {P : HProp}
end
section
variable {p : List Nat × Int} {l : List Nat} {k : Nat}
end
attribute [local irreducible] tx lnk sou prtA grp num2 vlP
end Go.Proofs.YtpkcniedaabpoaaGreat
namespace Go.Proofs.YtpkcniedaabpoaaGreat
open Go.SLA
set_option maxRecDepth 100000
attribute [local irreducible] J L K QL Rg FSpec OpV OpX Rd Back
theorem lnk_in {n : Int} (h : (lnk n).2 = 0) : ∃ m : Nat, n = (m : Int) ∧ 1 ≤ m ∧ m ≤ 65535 ∧ lnk n = ([3, 0, 0, 0, m / 256 % 256, m % 256], 0) := by
  by_cases hc : 1 ≤ n ∧ n ≤ 65535
  · obtain ⟨m, rfl⟩ := nat_of (n := n) (by omega)
    exact ⟨m, rfl, by omega, by omega, by unfold lnk; rw [if_pos hc]; rfl⟩
  · unfold lnk at h; rw [if_neg hc] at h; cases h
theorem sou_in {n k : Int} (h : (sou n k).2 = 0) : ∃ m q : Nat, n = (m : Int) ∧ k = (q : Int) ∧ m ≤ 4095 ∧ q ≤ 1 ∧ sou n k = ([2, 0, 0, m / 256 % 256, m % 256, 32 * (q + 1)], 0) := by
  by_cases hc : 0 ≤ n ∧ n ≤ 4095 ∧ 0 ≤ k ∧ k ≤ 1
  · obtain ⟨m, rfl⟩ := nat_of (n := n) (by omega)
    obtain ⟨q, rfl⟩ := nat_of (n := k) (by omega)
    exact ⟨m, q, rfl, rfl, by omega, by omega, by unfold sou; rw [if_pos hc]; rfl⟩
  · unfold sou at h; rw [if_neg hc] at h; cases h
theorem VL_lnk {n : Int} (h : (lnk n).2 = 0) : FSpec Tryz.prog 75 #[ag (lnk n).1] emp (fun _ : Unit => True) (fun _ => .tuple #[.int .i64 n, .int .i64 0]) (fun _ => emp) := by
  obtain ⟨m, rfl, h1, h2, he⟩ := lnk_in h
  have hn : num2 (m / 256 % 256) (m % 256) = m := by unfold num2; omega
  have hs := VL_any 3 0 0 0 (m / 256 % 256) (m % 256) (bys6 (by omega))
  rw [vlP_yes (by rw [hn, he]), hn] at hs
  rw [he]; exact hs
theorem Of_sou {n k : Int} (h : (sou n k).2 = 0) : FSpec Tryz.prog 76 #[ag (sou n k).1] emp (fun _ : Unit => True) (fun _ => .tuple #[.agg [.int .i64 n, .int .i64 k].toArray, .int .i64 0]) (fun _ => emp) := by
  obtain ⟨m, q, rfl, rfl, h1, h2, he⟩ := sou_in h
  have hn : num2 (m / 256 % 256) (m % 256) = m := by unfold num2; omega
  have hk : ((32 * (q + 1) / 32 : Nat) : Int) - 1 = (q : Int) := by omega
  have hs := Of_any 2 0 0 (m / 256 % 256) (m % 256) (32 * (q + 1)) (bys6 (by omega))
  rw [ofP_yes (by rw [hn, hk, he]), hn, hk] at hs
  rw [he]; exact hs
theorem tx_cells (l : List Nat) : l.map enc8 = (l.map fun w => ((w : Nat) : Int)).map (.int .u8) := by rw [List.map_map]; rfl
theorem tx_rng {l : List Nat} {k : Nat} (h : Bys k l) : ∀ v ∈ l.map (fun w => ((w : Nat) : Int)), 0 ≤ v ∧ v < 256 := by
  intro v hv
  obtain ⟨w, hw, rfl⟩ := List.mem_map.1 hv
  have := h.2 w hw
  omega
/-- A frame's bytes ahead of its check sum. -/
def ethB (vl h nt sq : Int) (d : ByteArray) : ByteArray := (((tx (lnk vl).1 ++ tx (sou h nt).1) ++ be 2048 2) ++ (d ++ zrs (45 - d.size))) ++ be sq.toNat 1
def ethS (vl h nt sq : Int) (d : ByteArray) : ByteArray := sealS (ethB vl h nt sq d)
theorem lnk6 (vl : Int) : (lnk vl).1.length = 6 := (lnk_adr vl).1.1
theorem sou6 (h nt : Int) : (sou h nt).1.length = 6 := (sou_adr h nt).1.1
theorem ethB_size (vl h nt sq : Int) (d : ByteArray) : (ethB vl h nt sq d).size = 15 + (d.size + (45 - d.size)) := by
  unfold ethB
  simp only [ByteArray.size_append, tx_size, lnk6, sou6, be_size, zrs_size]
  omega
theorem ethS_size (vl h nt sq : Int) (d : ByteArray) : (ethS vl h nt sq d).size = 19 + (d.size + (45 - d.size)) := by
  unfold ethS
  rw [sealS_size, ethB_size]
  omega
theorem Rep_any (k : Nat) (hk : k ≤ 64) : FSpec Tryz.prog 38 #[.string (⟨#[0]⟩ : ByteArray), .int .i64 (k : Nat)] emp (fun _ : Unit => True) (fun _ => .string (zrs k)) (fun _ => emp) := by
  by_cases h0 : k = 0
  · subst h0; exact Rep_0 ()
  · by_cases h1 : k = 1
    · subst h1; exact Rep_1 ()
    · exact Rep_n k (by omega) hk
theorem fit8e {m : Int} : fitB m (8 * 1) ↔ 0 ≤ m ∧ m ≤ 255 := by
  show (0 ≤ m ∧ m / 256 = 0) ↔ _
  omega
theorem U8_e (p : Nat) (s : ByteArray) (m : Int) (hk : 0 ≤ m ∧ m ≤ 255) (hs : s.size ≤ 1099511627776) : FSpec Tryz.prog 31 #[.pointer (some (ad p 0)), .int .i64 m] (WrP p s false) (fun _ : Unit => True) (fun _ => .tuple #[]) (fun _ => WrP p (s ++ be m.toNat 1) false) := by
  have h := U8_spec p s false m (by omega) hs
  have e : putS s false m 1 = (s ++ be m.toNat 1, false) := by unfold putS; rw [if_neg (by decide), if_pos (fit8e.2 hk)]
  rw [e] at h
  exact h
set_option maxHeartbeats 800000 in
theorem EthEnc (vl h nt sq : Int) (d : ByteArray) (hv : (lnk vl).2 = 0) (hs : (sou h nt).2 = 0) (hq : 0 ≤ sq ∧ sq ≤ 255) (hd : d.size ≤ 1499) : FSpec Tryz.prog 12 #[.agg [.int .i64 vl, .int .i64 h, .int .i64 nt, .int .i64 sq, .string d].toArray] (emp) (fun _ : Unit => True) (fun _ => .tuple #[.string (ethS vl h nt sq d), .int .i64 0]) (fun _ => emp) := by
  have hz1 := tx_size (lnk vl).1
  have hz2 := tx_size (sou h nt).1
  rw [lnk6] at hz1
  rw [sou6] at hz2
  have hz3 : (tx (lnk vl).1 ++ tx (sou h nt).1).size = 12 := by rw [ByteArray.size_append, hz1, hz2]
  have hz4 : ((tx (lnk vl).1 ++ tx (sou h nt).1) ++ be 2048 2).size = 14 := by rw [ByteArray.size_append, hz3, be_size]
  have hz5 : (d ++ zrs (45 - d.size)).size = d.size + (45 - d.size) := by rw [ByteArray.size_append, zrs_size]
  have hz6 : (((tx (lnk vl).1 ++ tx (sou h nt).1) ++ be 2048 2) ++ (d ++ zrs (45 - d.size))).size = 14 + (d.size + (45 - d.size)) := by rw [ByteArray.size_append, hz4, hz5]
  have hzB := ethB_size vl h nt sq d
  refine en Tryz.func12 r fun σ F=>J_emp<|sr<|lx r (opx_box (l := [.int .i64 vl, .int .i64 h, .int .i64 nt, .int .i64 sq, .string d]) r r) fun b1 _=>eb r<|nr ?_
  first | refine fz r ?_ | refine fy r ?_
  refine ld r r<|cy (Link_any vl) r fun _=>L_emp<|ea r<|lv ((opv_extract (v := ag (lnk vl).1) r r)) r<|lv ((opv_extract (v := .int .i64 (lnk vl).2) r r)) r<|al r fun b6=>?_
  refine lx r (opx_storeW (m := 6) r r (enc8_len (lnk_adr vl).1) (enc8_one _) r) fun _ _=>an r<|js<|sa r<|lv ((opv_neq r r).bool_f (by simp [hv])) r<|nf r<|sk<|sr ?_
  first | refine fz r ?_ | refine fy r ?_
  refine ld r r ?_
  first | refine fz r ?_ | refine fy r ?_
  refine ld r r<|lv (opv_build r) r<|cy (Source_any h nt) r fun _=>L_emp<|ea r<|lv ((opv_extract (v := ag (sou h nt).1) r r)) r<|lv ((opv_extract (v := .int .i64 (sou h nt).2) r r)) r<|al r fun b10=>?_
  refine lx r (opx_storeW (m := 6) r r (enc8_len (sou_adr h nt).1) (enc8_one _) r) fun _ _=>an r<|js<|sa r<|lv ((opv_neq r r).bool_f (by simp [hs])) r<|nf r<|sk<|sr<|lv (opv_build r) r<|bx r fun p=>an r<|js ?_
  refine J_imp _ WrP_new ?_
  refine J_steps ((sep (cel b6 ((lnk vl).1.map enc8) 102) (cel b10 ((sou h nt).1.map enc8) 102))) (emp) [] Tryz.mixed<|pe 0 r r<|ps 1 r (opv_sliceA r)<|ps 2 r ((opv_b2sL ((lnk vl).1.map fun w => ((w : Nat) : Int)) r (tx_cells _) (by rw [List.length_map, lnk6]) (tx_rng (lnk_adr vl).1)).as (v' := .string (tx (lnk vl).1)) r)<|ps 3 r (opv_sliceA r)<|ps 4 r ((opv_b2sL ((sou h nt).1.map fun w => ((w : Nat) : Int)) r (tx_cells _) (by rw [List.length_map, sou6]) (tx_rng (sou_adr h nt).1)).as (v' := .string (tx (sou h nt).1)) r)<|ps 5 r (opv_addS r r (by omega))<|pn 6 r (opx_call0 (WText_ok p (bytesL []) (tx (lnk vl).1 ++ tx (sou h nt).1) (by decide) (by omega)) r r r) fun _ _=>dn<|kt<|js ?_
  rw [nil_app]
  refine jg<|ea r<|cy (U16_ok p (tx (lnk vl).1 ++ tx (sou h nt).1) 2048 (by decide) (by omega)) r fun _=>nj<|J_steps (cel b1 [.int .i64 vl, .int .i64 h, .int .i64 nt, .int .i64 sq, .string d] 46) (emp) [] Tryz.mixed<|pe 0 r r ?_
  first | refine ps 1 r (opv_fieldAddr0 r) ?_ | refine ps 1 r (opv_fieldAddr r) ?_
  refine pl 2 r r r ?_
  first | refine ps 3 r (opv_fieldAddr0 r) ?_ | refine ps 3 r (opv_fieldAddr r) ?_
  refine pl 4 r r r<|ps 5 r (opv_lenS r)<|ps 6 r ((opv_sub64 r r (by omega)))<|ps 7 r ((opv_max r r).as (v' := .int .i64 ((45 - d.size : Nat) : Int)) (congrArg (Value.int .i64) (by split <;> omega)))<|pn 8 r (opx_call0 (Rep_any (45 - d.size) (by omega)) r r r) fun _ _=>Rg_emp<|ps 9 r (opv_addS r r (by rw [zrs_size]; omega))<|pn 10 r (opx_call0 (WText_ok p ((tx (lnk vl).1 ++ tx (sou h nt).1) ++ be 2048 2) (d ++ zrs (45 - d.size)) (by omega) (by omega)) r r r) fun _ _=>dn<|kt<|sa r ?_
  first | refine fz r ?_ | refine fy r ?_
  refine ld r r<|cy (U8_e p (((tx (lnk vl).1 ++ tx (sou h nt).1) ++ be 2048 2) ++ (d ++ zrs (45 - d.size))) sq hq (by omega)) r fun _=>nj ?_
  rw [show (((tx (lnk vl).1 ++ tx (sou h nt).1) ++ be 2048 2) ++ (d ++ zrs (45 - d.size))) ++ be sq.toNat 1 = ethB vl h nt sq d from rfl]
  refine jg<|ea r<|cy (Bytes_ok p (ethB vl h nt sq d)) r fun _=>ea r<|lv (opv_extract r r) r<|lv (opv_extract r r) r<|eb r<|nj<|jb<|sa r<|lv ((opv_neq r r).bool_f (by decide)) r<|an r<|cf r<|sr ?_
  first | refine fz r ?_ | refine fy r ?_
  refine ld r r ?_
  first | refine ll r ?_ | refine lv (opv_lenS r) r ?_
  refine lv ((opv_gtr r r).bool_f (by omega)) r<|an r<|cf r<|skb<|sa r<|cy (Seal_spec (ethB vl h nt sq d) (by omega)) r fun _=>L_emp<|eb r<|nk<|jr ?_
  exact K_ret2 rfl rfl rfl () trivial rfl (by rw [emp_sep]; exact (Ent.trans (Ent.take (Q := (sep (cel b1 [.int .i64 vl, .int .i64 h, .int .i64 nt, .int .i64 sq, .string d] 46) (F)))) Ent.drop))
theorem RText_app (p : Nat) (a b : ByteArray) (m : Nat) (h : a.size = m) : FSpec Tryz.prog 44 #[.pointer (some (ad p 0)), .int .i64 m] (cel p [.string (a ++ b), .int .i64 0] 176) (fun _ : Unit => True) (fun _ => .string a) (fun _ => cel p [.string b, .int .i64 0] 176) := by
  have hs := RText_ok p (a ++ b) m (by rw [ByteArray.size_append]; omega)
  rwa [ByteArray.extract_append_eq_left h.symm, ByteArray.extract_append_eq_right h.symm (by rw [ByteArray.size_append])] at hs
theorem RU16_app (p k : Nat) (b : ByteArray) (h : k ≤ 65535) : FSpec Tryz.prog 43 #[.pointer (some (ad p 0))] (cel p [.string (be k 2 ++ b), .int .i64 0] 176) (fun _ : Unit => True) (fun _ => .int .i64 k) (fun _ => cel p [.string b, .int .i64 0] 176) := by
  have hs := RU16_ok p (be k 2 ++ b) (by rw [ByteArray.size_append, be_size]; omega)
  rwa [word_app_l (by rw [be_size]; decide), word_be h, ByteArray.extract_append_eq_right (be_size k 2).symm (by rw [ByteArray.size_append])] at hs
theorem be1_num {k : Nat} (h : k ≤ 255) : numB (be k 1) 1 = k := by
  have : numB (be k 1) 1 = 0 * 2 ^ 8 + bn (be k 1) 0 := rfl
  rw [this, bn_be0]
  omega
theorem RU8_last (p k : Nat) (h : k ≤ 255) : ∃ c : List Value, FSpec Tryz.prog 46 #[.pointer (some (ad p 0))] (cel p [.string (be k 1), .int .i64 0] 176) (fun _ : Unit => True) (fun _ => .int .i64 k) (fun _ => cel p c 176) := by
  have hs := RU8_spec p (be k 1) 0
  have e : textS (be k 1) 0 (1 : Nat) = _ := textS_ok (be k 1) 1 (by rw [be_size]; omega)
  have e2 : (be k 1).extract 0 1 = be k 1 := by
    have := ByteArray.extract_zero_size (b := be k 1)
    rwa [be_size] at this
  rw [e, e2, be_size, be1_num h] at hs
  exact ⟨_, hs⟩
theorem tx_load {l : List Nat} {k b c : Nat} {e : TypeId} {R : HProp} (h : Bys k l) : ∀ j u, (l.map enc8)[j]? = some u → Rd (sep (byb b (tx l) c e) (R)) b (0 + j) u := by
  intro j u hj
  rw [List.getElem?_map] at hj
  cases hl : l[j]? with
  | none => rw [hl] at hj; cases hj
  | some w =>
    rw [hl] at hj
    cases hj
    have hlt := (List.getElem?_eq_some_iff.1 hl).1
    have hr := Rd.byb (P := (sep (byb b (tx l) c e) (R))) (R := R) (b := b) (c := c) (s := tx l) (e := e) (j := j) (by rw [tx_size]; exact hlt)
    rw [byt_tx hl (h.2 w (List.mem_of_getElem? hl))] at hr
    rw [Nat.zero_add]
    exact hr
theorem tx_load2 {l : List Nat} {k b c : Nat} {e : TypeId} {P R : HProp} (h : Bys k l) (hp : P = (sep (byb b (tx l) c e) (R))) : ∀ j u, (l.map enc8)[j]? = some u → Rd P b (0 + j) u := hp ▸ tx_load h
set_option maxHeartbeats 800000 in
theorem EthEnds (p : Nat) (vl h nt : Int) (s : ByteArray) (hv : (lnk vl).2 = 0) (hs : (sou h nt).2 = 0) : FSpec Tryz.prog 42 #[.pointer (some (ad p 0))] (cel p [.string ((tx (lnk vl).1 ++ (tx (sou h nt).1 ++ s))), .int .i64 0] 176) (fun _ : Unit => True) (fun _ => .tuple #[.int .i64 vl, .agg [.int .i64 h, .int .i64 nt].toArray, .int .i64 0]) (fun _ => cel p [.string (s), .int .i64 0] 176) := by
  have hz1 := tx_size (lnk vl).1
  have hz2 := tx_size (sou h nt).1
  rw [lnk6] at hz1
  rw [sou6] at hz2
  refine en Tryz.func42 r fun σ F=>sa r<|al r fun b3=>an r<|sa r<|cy (RText_app p (tx (lnk vl).1) (tx (sou h nt).1 ++ s) 6 hz1) r fun _=>lx r (opx_s2b r r) fun y13 _=>ea r<|cy (RText_app p (tx (sou h nt).1) s 6 hz2) r fun _=>lx r (opx_s2b r r) fun y16 _=>eb r<|nj<|sa r<|cy (Err_spec p s 0) r fun _=>an r<|sa r ?_
  refine lv ((opv_neq r r).bool_f (by decide)) r<|nf r<|sk<|sa r<|lv (opv_s2a (k := 6) r (by omega)) r<|lv ((opv_loadN (m := 6) (vs := (lnk vl).1.map enc8) r (by rw [List.length_map, lnk6]) (tx_load2 (lnk_adr vl).1 (Take.eq (A := byb y13.1 (tx (lnk vl).1) y13.2 5)))).as (v' := ag (lnk vl).1) r) r<|cy (VL_lnk hv) r fun _=>L_emp<|ea r<|lv (opv_extract r r) r<|lv (opv_extract r r) r<|eb r<|nj<|sa r<|lv ((opv_neq r r).bool_f (by decide)) r<|nf r ?_
  refine sk<|sa r<|lv (opv_s2a (k := 6) r (by omega)) r<|lv ((opv_loadN (m := 6) (vs := (sou h nt).1.map enc8) r (by rw [List.length_map, sou6]) (tx_load2 (sou_adr h nt).1 (Take.eq (A := byb y16.1 (tx (sou h nt).1) y16.2 5)))).as (v' := ag (sou h nt).1) r) r<|cy (Of_sou hs) r fun _=>L_emp<|ea r<|lv ((opv_extract (v := .agg [.int .i64 h, .int .i64 nt].toArray) r r)) r<|lv (opv_extract r r) r<|al r fun b10=>?_
  refine lx r (opx_store r r r (by simp [Value.oneCell'])) fun _ _=>an r<|js<|sa r<|lv ((opv_neq r r).bool_f (by decide)) r<|nf r<|sk<|js<|J_steps (cel b10 [.int .i64 h, .int .i64 nt] 107) (emp) [] Tryz.mixed<|pe 0 r r<|ps 1 r (opv_loadS r)<|pe 2 r r ?_
  refine pn 3 r (opx_store r r r (by simp [Value.oneCell'])) fun _ _=>pe 4 r r<|dn<|kt<|jr ?_
  exact K_rets rfl (.tmp rfl (.agg rfl rfl (.tmp rfl (.nil)))) () trivial rfl Ent.take
theorem ethB_eq (vl h nt sq : Int) (d : ByteArray) : ethB vl h nt sq d = (tx (lnk vl).1 ++ (tx (sou h nt).1 ++ (be 2048 2 ++ ((d ++ zrs (45 - d.size)) ++ be sq.toNat 1)))) := by
  unfold ethB
  simp only [ByteArray.append_assoc]
set_option maxHeartbeats 1600000 in
theorem EthDec (vl h nt sq : Int) (d : ByteArray) (hv : (lnk vl).2 = 0) (hs : (sou h nt).2 = 0) (hq : 0 ≤ sq ∧ sq ≤ 255) (hd : d.size ≤ 1499) : FSpec Tryz.prog 13 #[.string (ethS vl h nt sq d)] (emp) (fun _ : Unit => True) (fun _ => .tuple #[.agg [.int .i64 vl, .int .i64 h, .int .i64 nt, .int .i64 sq, .string (d ++ zrs (45 - d.size))].toArray, .int .i64 0]) (fun _ => emp) := by
  have hzS := ethS_size vl h nt sq d
  have hzB := ethB_size vl h nt sq d
  have hz3 : ((d ++ zrs (45 - d.size)) ++ be sq.toNat 1).size = d.size + (45 - d.size) + 1 := by rw [ByteArray.size_append, ByteArray.size_append, zrs_size, be_size]
  have hz4 : (d ++ zrs (45 - d.size)).size = d.size + (45 - d.size) := by rw [ByteArray.size_append, zrs_size]
  refine en Tryz.func13 r fun σ F=>J_emp<|sr<|al r fun b2=>an r<|js<|jb<|sa r ?_
  first | refine ll r ?_ | refine lv (opv_lenS r) r ?_
  refine lv ((opv_lss r r).bool_f (by omega)) r<|an r<|cf r<|sa r ?_
  first | refine ll r ?_ | refine lv (opv_lenS r) r ?_
  refine lv ((opv_gtr r r).bool_f (by omega)) r<|an r<|cf r<|skb<|sa r<|cy (Open_ok (ethB vl h nt sq d) (by omega)) r fun _=>L_emp<|ea r<|lv (opv_extract r r) r<|lv (opv_extract r r) r<|eb r<|nj<|sa r<|lv ((opv_neq r r).bool_f (by decide)) r<|nf r<|sk ?_
  refine sa r<|cy (Read_spec (ethB vl h nt sq d)) r fun p=>an r<|sa r ?_
  rw [ethB_eq]
  refine cy (EthEnds p vl h nt (be 2048 2 ++ ((d ++ zrs (45 - d.size)) ++ be sq.toNat 1)) hv hs) r fun _=>ea r<|lv ((opv_extract (v := .int .i64 vl) r r)) r<|lv ((opv_extract (v := .agg [.int .i64 h, .int .i64 nt].toArray) r r)) r<|lv ((opv_extract (v := .int .i64 0) r r)) r<|al r fun b8=>ea r ?_
  refine lx r (opx_store r r r (by simp [Value.oneCell'])) fun _ _=>an r<|js<|sa r<|lv ((opv_neq r r).bool_f (by decide)) r<|nf r<|sk<|js<|sa r<|cy (RU16_app p 2048 ((d ++ zrs (45 - d.size)) ++ be sq.toNat 1) (by decide)) r fun _=>lv ((opv_neq r r).bool_f (by decide)) r<|nf r<|sk ?_
  refine J_cut (X := Nat) (fun x => [(2, .pointer (some (ad b2 0))), (6, .pointer (some (ad p 0))), (9, .pointer (some (ad x 0)))]) (fun x => (sep (cel x [.int .i64 vl, .int .i64 h, .int .i64 nt, .int .i64 0, .string (d ++ zrs (45 - d.size))] 46) (sep (cel p [.string (be sq.toNat 1), .int .i64 0] 176) (sep (cel b2 [.int .i64 0, .int .i64 0, .int .i64 0, .int .i64 0, .string ⟨#[]⟩] 46) (F))))) (fun x => True) ?_ (fun x _ => ?_)
  · refine J_steps (cel b8 [.int .i64 h, .int .i64 nt] 107) (emp) [] Tryz.mixed<|pe 0 r r ?_
    first | refine ps 1 r (opv_fieldAddr0 r) ?_ | refine ps 1 r (opv_fieldAddr r) ?_
    refine pl 2 r r r ?_
    first | refine ps 3 r (opv_fieldAddr0 r) ?_ | refine ps 3 r (opv_fieldAddr r) ?_
    refine pl 4 r r r<|pe 5 r r<|pe 6 r r ?_
    refine R_all [7, 11] (by kernel_rfl) rfl fun i hi => ?_
    simp only [List.mem_cons, List.not_mem_nil, or_false] at hi
    rcases hi with rfl | rfl
    · refine ⟨_, _, _, _, _, rfl, rfl, (opx_call0 (Left_spec p ((d ++ zrs (45 - d.size)) ++ be sq.toNat 1) 0) rfl rfl rfl), fun _ _ => ⟨⟨_, Take.eq (A := cel b8 [.int .i64 h, .int .i64 nt] 107)⟩, .inr ⟨_, Take.eq (A := emp)⟩, ?_⟩⟩
      refine ps 8 r ((opv_sub64 r r (by omega)).as (v' := .int .i64 ((d.size + (45 - d.size) : Nat) : Int)) (congrArg (Value.int .i64) (by omega))) ?_
      refine R_all [9, 11] (by kernel_rfl) rfl fun i hi => ?_
      simp only [List.mem_cons, List.not_mem_nil, or_false] at hi
      rcases hi with rfl | rfl
      · refine ⟨_, _, _, _, _, rfl, rfl, (opx_call0 (RText_app p (d ++ zrs (45 - d.size)) (be sq.toNat 1) (d.size + (45 - d.size)) hz4) rfl rfl rfl), fun _ _ => ⟨⟨_, Take.eq (A := cel b8 [.int .i64 h, .int .i64 nt] 107)⟩, .inr ⟨_, Take.eq (A := emp)⟩, ?_⟩⟩
        refine ps 10 r (opv_build r)<|pn 11 r (opx_alloc r) fun b11 _=>?_
        refine pn 12 r (opx_store r r r (by simp [Value.oneCell'])) fun _ _=>dn ?_
        exact K_cut b11 trivial ⟨rfl, rfl, rfl, trivial⟩ Ent.take
      · refine ⟨_, _, _, _, _, rfl, rfl, (opx_alloc rfl), fun b11 _ => ⟨⟨_, Take.eq (A := cel b8 [.int .i64 h, .int .i64 nt] 107)⟩, .inr ⟨_, Take.eq (A := emp)⟩, ?_⟩⟩
        refine pn 9 r (opx_call0 (RText_app p (d ++ zrs (45 - d.size)) (be sq.toNat 1) (d.size + (45 - d.size)) hz4) r r r) fun _ _=>ps 10 r (opv_build r) ?_
        refine pn 12 r (opx_store r r r (by simp [Value.oneCell'])) fun _ _=>dn ?_
        exact K_cut b11 trivial ⟨rfl, rfl, rfl, trivial⟩ Ent.take
    · refine ⟨_, _, _, _, _, rfl, rfl, (opx_alloc rfl), fun b11 _ => ⟨⟨_, Take.eq (A := cel b8 [.int .i64 h, .int .i64 nt] 107)⟩, .inr ⟨_, Take.eq (A := emp)⟩, ?_⟩⟩
      refine pn 7 r (opx_call0 (Left_spec p ((d ++ zrs (45 - d.size)) ++ be sq.toNat 1) 0) r r r) fun _ _=>ps 8 r ((opv_sub64 r r (by omega)).as (v' := .int .i64 ((d.size + (45 - d.size) : Nat) : Int)) (congrArg (Value.int .i64) (by omega)))<|pn 9 r (opx_call0 (RText_app p (d ++ zrs (45 - d.size)) (be sq.toNat 1) (d.size + (45 - d.size)) hz4) r r r) fun _ _=>ps 10 r (opv_build r) ?_
      refine pn 12 r (opx_store r r r (by simp [Value.oneCell'])) fun _ _=>dn ?_
      exact K_cut b11 trivial ⟨rfl, rfl, rfl, trivial⟩ Ent.take
  · refine sa r ?_
    obtain ⟨cc, hcc⟩ := RU8_last p sq.toNat (by omega)
    refine cy hcc r fun _=>?_
    first | refine fz r ?_ | refine fy r ?_
    refine lx r (opx_store r r r (by simp [Value.oneCell'])) fun _ _=>nr<|ls r ?_
    refine lx r (opx_store r r r (by simp [Value.oneCell'])) fun _ _=>an r<|jr ?_
    exact K_rets rfl (.agg rfl rfl (.tmp rfl (.nil))) () trivial (by rw [show ((sq.toNat : Nat) : Int) = sq by omega]; rfl) (by rw [emp_sep]; exact Ent.trans Ent.drop (Ent.trans Ent.drop Ent.drop))
end Go.Proofs.YtpkcniedaabpoaaGreat
namespace Go.Proofs.YtpkcniedaabpoaaGreat
open Go.SLA
set_option maxRecDepth 100000
attribute [local irreducible] J L K QL Rg FSpec OpV OpX Rd Back
/-- The sum of a datagram. -/
def sumT (a b : List Int) (t : ByteArray) : ByteArray := bytesL a ++ bytesL b ++ be 17 2 ++ be t.size 2 ++ t
def usum (a b : List Int) (t : ByteArray) : Nat := if ones (sumT a b t) = 0 then 65535 else ones (sumT a b t)
theorem usum_spec (a b : List Int) (t : ByteArray) (ha : a.length = 4) (hb : b.length = 4) (ha2 : ∀ v ∈ a, 0 ≤ v ∧ v < 256) (hb2 : ∀ v ∈ b, 0 ≤ v ∧ v < 256) (ht : t.size ≤ 65535) : FSpec Tryz.prog 26 #[.agg (a.map (.int .u8)).toArray, .agg (b.map (.int .u8)).toArray, .string t] (emp) (fun _ : Unit => True) (fun _ => .int .i64 (usum a b t)) (fun _ => emp) := by
  have hT : bytesL [] ++ (bytesL a ++ bytesL b) ++ be 17 2 ++ be t.size 2 ++ t = sumT a b t := by unfold sumT; rw [show bytesL [] ++ (bytesL a ++ bytesL b) = bytesL a ++ bytesL b from by show ByteArray.empty ++ _ = _; simp]
  have hz1 : (bytesL [] ++ (bytesL a ++ bytesL b)).size = 8 := by rw [ByteArray.size_append, ByteArray.size_append, bytesL_size, bytesL_size, bytesL_size, ha, hb]; rfl
  have hz2 : (bytesL [] ++ (bytesL a ++ bytesL b) ++ be 17 2).size = 10 := by rw [ByteArray.size_append, hz1, be_size]
  have hz3 : (bytesL [] ++ (bytesL a ++ bytesL b) ++ be 17 2 ++ be t.size 2).size = 12 := by rw [ByteArray.size_append, hz2, be_size]
  have hz4 : (sumT a b t).size = 12 + t.size := by rw [← hT, ByteArray.size_append, hz3]
  refine en Tryz.func26 r fun σ F=>J_emp<|sr<|bx r fun b3=>bx r fun b4=>an r<|sr<|lv (opv_build r) r<|bx r fun p=>an r<|js ?_
  refine J_imp (sep (WrP p (bytesL []) false) ((sep (cel b4 (b.map (.int .u8)) 25) ((sep (cel b3 (a.map (.int .u8)) 25) (F)))))) WrP_new ?_
  refine J_steps ((sep (cel b4 (b.map (.int .u8)) 25) (cel b3 (a.map (.int .u8)) 25))) ((sep (cel b4 (b.map (.int .u8)) 25) (cel b3 (a.map (.int .u8)) 25))) [] Tryz.mixed<|pe 0 r r<|ps 1 r (opv_sliceA r)<|ps 2 r (opv_b2sL a r r ha.symm ha2)<|ps 3 r (opv_sliceA r)<|ps 4 r (opv_b2sL b r r hb.symm hb2)<|ps 5 r (opv_addS r r (by rw [bytesL_size, bytesL_size]; omega))<|pn 6 r (opx_call0 (WText_ok p (bytesL []) (bytesL a ++ bytesL b) (by decide) (by rw [ByteArray.size_append, bytesL_size, bytesL_size]; omega)) r r r) fun _ _=>dn<|kt<|sa r<|cy (U16_ok p (bytesL [] ++ (bytesL a ++ bytesL b)) 17 (by decide) (by omega)) r fun _=>nr<|eb r ?_
  first | refine ll r ?_ | refine lv (opv_lenS r) r ?_
  refine cy (U16_ok p (bytesL [] ++ (bytesL a ++ bytesL b) ++ be 17 2) t.size ht (by omega)) r fun _=>nr<|eb r<|cy (WText_ok p (bytesL [] ++ (bytesL a ++ bytesL b) ++ be 17 2 ++ be t.size 2) t (by omega) (by omega)) r fun _=>nr<|ea r<|cy (Bytes_ok p (bytesL [] ++ (bytesL a ++ bytesL b) ++ be 17 2 ++ be t.size 2 ++ t)) r fun _=>ea r<|lv (opv_extract r r) r<|lv (opv_extract r r) r<|eb r<|nj<|sr ?_
  rw [hT]
  refine ea r<|cy (Ones_spec (sumT a b t) (by omega)) r fun _=>L_emp<|an r<|sa r ?_
  first | refine lv (opv_neq r r) r ?_ | refine lv (opv_neqS r r) r ?_ | refine lv (opv_neqNil r r) r ?_ | refine lv (opv_neqB r r) r ?_
  refine nk ?_
  refine J_cond rfl (fun h1 => ?_) (fun h1 => ?_)
  · refine sb r<|nk<|jr<|kd ?_
    exact K_ret1 rfl rfl () trivial (by rw [usum, if_neg (by omega)]) Ent.take
  · refine sk<|san r<|jr ?_
    exact K_ret1 rfl rfl () trivial (by rw [usum, if_pos (by omega)]; rfl) Ent.take
end Go.Proofs.YtpkcniedaabpoaaGreat
namespace Go.Proofs.YtpkcniedaabpoaaGreat
open Go.SLA
set_option maxRecDepth 100000
attribute [local irreducible] J L K QL Rg FSpec OpV OpX Rd Back
structure En where
  a0 : Int
  a1 : Int
  a2 : Int
  a3 : Int
  b0 : Int
  b1 : Int
  b2 : Int
  b3 : Int
  f : Int
  g : Int
def encEn (x : En) : List Value := [.int .u8 x.a0, .int .u8 x.a1, .int .u8 x.a2, .int .u8 x.a3, .int .u8 x.b0, .int .u8 x.b1, .int .u8 x.b2, .int .u8 x.b3, .int .i64 x.f, .int .i64 x.g]
def okEn (x : En) : Prop := (Lit.int .u8 x.a0).wf = true ∧ (Lit.int .u8 x.a1).wf = true ∧ (Lit.int .u8 x.a2).wf = true ∧ (Lit.int .u8 x.a3).wf = true ∧ (Lit.int .u8 x.b0).wf = true ∧ (Lit.int .u8 x.b1).wf = true ∧ (Lit.int .u8 x.b2).wf = true ∧ (Lit.int .u8 x.b3).wf = true ∧ (Lit.int .i64 x.f).wf = true ∧ (Lit.int .i64 x.g).wf = true
def En.a (x : En) : List Int := [x.a0, x.a1, x.a2, x.a3]
def En.b (x : En) : List Int := [x.b0, x.b1, x.b2, x.b3]
theorem wf8 {n : Int} (h : (Lit.int .u8 n).wf = true) : 0 ≤ n ∧ n < 256 := by
  have : 0 ≤ n ∧ n ≤ 255 := by simpa [Lit.wf, IntKind.min, IntKind.max, IntKind.signed, IntKind.bits] using h
  omega
theorem wf64 {n : Int} (h : (Lit.int .i64 n).wf = true) : -9223372036854775808 ≤ n ∧ n ≤ 9223372036854775807 := by simpa [Lit.wf, IntKind.min, IntKind.max, IntKind.signed, IntKind.bits] using h
theorem okEn.a {x : En} (h : okEn x) : ∀ v ∈ x.a, 0 ≤ v ∧ v < 256 := by
  obtain ⟨h0, h1, h2, h3, _⟩ := h
  intro v hv
  simp only [En.a, List.mem_cons, List.not_mem_nil, or_false] at hv
  rcases hv with rfl | rfl | rfl | rfl <;> exact wf8 (by assumption)
theorem okEn.b {x : En} (h : okEn x) : ∀ v ∈ x.b, 0 ≤ v ∧ v < 256 := by
  obtain ⟨_, _, _, _, h0, h1, h2, h3, _⟩ := h
  intro v hv
  simp only [En.b, List.mem_cons, List.not_mem_nil, or_false] at hv
  rcases hv with rfl | rfl | rfl | rfl <;> exact wf8 (by assumption)
theorem okEn.f {x : En} (h : okEn x) : -9223372036854775808 ≤ x.f ∧ x.f ≤ 9223372036854775807 := wf64 h.2.2.2.2.2.2.2.2.1
theorem okEn.g {x : En} (h : okEn x) : -9223372036854775808 ≤ x.g ∧ x.g ≤ 9223372036854775807 := wf64 h.2.2.2.2.2.2.2.2.2
/-- May ports be? -/
def portsB (x : En) : Prop := (0 ≤ x.f ∧ x.f ≤ 65535) ∧ (0 ≤ x.g ∧ x.g ≤ 65535)
instance (x : En) : Decidable (portsB x) := inferInstanceAs (Decidable (_ ∧ _))
def head3 (x : En) (n : Nat) : ByteArray := be x.f.toNat 2 ++ be x.g.toNat 2 ++ be (8 + n) 2
/-- The bytes of a datagram. -/
def datag (x : En) (t : ByteArray) : ByteArray := head3 x t.size ++ be (usum x.a x.b (head3 x t.size ++ ⟨#[0, 0]⟩ ++ t)) 2 ++ t
theorem put_bad2 {x : En} (h : ¬ portsB x) : (putS (putS (bytesL []) false x.f 2).1 (putS (bytesL []) false x.f 2).2 x.g 2).2 = true := by
  unfold portsB at h
  by_cases h1 : fitB x.f (8 * 2)
  · have h2 : ¬ fitB x.g (8 * 2) := fun h2 => h ⟨fit16.1 h1, fit16.1 h2⟩
    have e : putS (bytesL []) false x.f 2 = (bytesL [] ++ be x.f.toNat 2, false) := by unfold putS; rw [if_neg (by decide), if_pos h1]
    rw [e]
    unfold putS
    rw [if_neg (fun h => by cases h), if_neg h2]
  · have e : putS (bytesL []) false x.f 2 = (bytesL [], true) := by unfold putS; rw [if_neg (by decide), if_neg h1]
    rw [e]
    unfold putS
    rw [if_pos rfl]
theorem usum_le (a b : List Int) (t : ByteArray) : usum a b t ≤ 65535 := by
  unfold usum
  have := ones_le (sumT a b t)
  split <;> omega
theorem Encode_bad (x : En) (t : ByteArray) (hx : okEn x) (h : ¬ portsB x) : FSpec Tryz.prog 8 #[.agg (encEn x).toArray, .string t] (emp) (fun _ : Unit => True) (fun _ => .tuple #[.string (ByteArray.empty), .int .i64 1]) (fun _ => emp) := by
  refine en Tryz.func8 r fun σ F=>J_emp<|sr<|lx r (opx_box (l := [.int .u8 x.a0, .int .u8 x.a1, .int .u8 x.a2, .int .u8 x.a3, .int .u8 x.b0, .int .u8 x.b1, .int .u8 x.b2, .int .u8 x.b3, .int .i64 x.f, .int .i64 x.g]) r r) fun b2 _=>eb r<|nr<|lv (opv_build r) r<|bx r fun p=>an r<|js ?_
  refine J_imp _ WrP_new ?_
  refine jg<|ea r ?_
  first | refine fz r ?_ | refine fy r ?_
  refine ld r r<|cy (U16_spec p (bytesL []) false x.f hx.f (by decide)) r fun _=>nr<|ea r ?_
  first | refine fz r ?_ | refine fy r ?_
  refine ld r r<|cy (U16_spec p (putS (bytesL []) false x.f 2).1 (putS (bytesL []) false x.f 2).2 x.g hx.g (by have h := putS_size (bytesL []) false x.f 2; have e : (bytesL []).size = 0 := rfl; omega)) r fun _=>nj ?_
  rw [put_bad2 h]
  refine jg<|ea r<|cy (Bytes_bad p (putS (putS (bytesL []) false x.f 2).1 (putS (bytesL []) false x.f 2).2 x.g 2).1) r fun _=>ea r<|lv (opv_extract r r) r<|lv (opv_extract r r) r<|eb r<|nj<|jb<|sa r<|lv ((opv_neq r r).bool_t (by decide)) r<|an r<|ct r<|sr<|ec r<|nk ?_
  refine jr<|kq<|kd ?_
  exact K_ret2 rfl rfl rfl () trivial rfl Ent.take
attribute [local irreducible] be usum ones
set_option maxHeartbeats 400000 in
theorem Encode_ok (x : En) (t : ByteArray) (hx : okEn x) (h : portsB x) (ht : t.size ≤ 8192) : FSpec Tryz.prog 8 #[.agg (encEn x).toArray, .string t] (emp) (fun _ : Unit => True) (fun _ => .tuple #[.string (datag x t), .int .i64 0]) (fun _ => emp) := by
  have hz2 : (be x.f.toNat 2 ++ be x.g.toNat 2).size = 4 := by rw [ByteArray.size_append, be_size, be_size]
  have hz3 : (head3 x t.size).size = 6 := by unfold head3; rw [ByteArray.size_append, hz2, be_size]
  have hz0 : (⟨#[0, 0]⟩ : ByteArray).size = 2 := rfl
  have hz4 : ((head3 x t.size) ++ be (usum x.a x.b (head3 x t.size ++ ⟨#[0, 0]⟩ ++ t)) 2).size = 8 := by rw [ByteArray.size_append, hz3, be_size]
  have hul := usum_le x.a x.b (head3 x t.size ++ ⟨#[0, 0]⟩ ++ t)
  refine en Tryz.func8 r fun σ F=>J_emp<|sr<|lx r (opx_box (l := [.int .u8 x.a0, .int .u8 x.a1, .int .u8 x.a2, .int .u8 x.a3, .int .u8 x.b0, .int .u8 x.b1, .int .u8 x.b2, .int .u8 x.b3, .int .i64 x.f, .int .i64 x.g]) r r) fun b2 _=>eb r<|nr<|lv (opv_build r) r<|bx r fun p=>an r<|js ?_
  refine J_imp _ WrP_new ?_
  refine jg<|ea r ?_
  first | refine fz r ?_ | refine fy r ?_
  refine ld r r<|cy (U16_n p (bytesL []) x.f h.1 (by decide)) r fun _=>nj ?_
  rw [nil_app]
  refine jg<|ea r ?_
  first | refine fz r ?_ | refine fy r ?_
  refine ld r r<|cy (U16_n p (be x.f.toNat 2) x.g h.2 (by rw [be_size]; decide)) r fun _=>nr<|ea r<|cy (Bytes_ok p (be x.f.toNat 2 ++ be x.g.toNat 2)) r fun _=>ea r<|lv (opv_extract r r) r<|lv (opv_extract r r) r<|eb r<|nj<|jb<|sa r<|lv ((opv_neq r r).bool_f (by decide)) r<|an r<|cf r<|sa r ?_
  first | refine ll r ?_ | refine lv (opv_lenS r) r ?_
  refine lv ((opv_gtr r r).bool_f (by omega)) r<|an r<|cf r<|skb<|sb r ?_
  first | refine ll r ?_ | refine lv (opv_lenS r) r ?_
  refine lv ((opv_add64 r r (by omega)).as (v' := .int .i64 ((8 + t.size : Nat) : Int)) (by rw [Int.natCast_add]; rfl)) r<|cy (U16_ok p (be x.f.toNat 2 ++ be x.g.toNat 2) (8 + t.size) (by omega) (by omega)) r fun _=>nj ?_
  rw [show (be x.f.toNat 2 ++ be x.g.toNat 2) ++ be (8 + t.size) 2 = (head3 x t.size) from rfl]
  refine jg<|ea r<|cy (Bytes_ok p (head3 x t.size)) r fun _=>ea r<|lv (opv_extract r r) r<|lv (opv_extract r r) r<|an r<|sa r ?_
  first | refine fz r ?_ | refine fy r ?_
  refine ls r ?_
  first | refine fz r ?_ | refine fy r ?_
  refine ls r<|ea r<|lv (opv_addS r r (by rw [hz3]; decide)) r<|ea r<|lv (opv_addS r r (by rw [ByteArray.size_append, hz3]; omega)) r<|cy (usum_spec x.a x.b ((head3 x t.size) ++ ⟨#[0, 0]⟩ ++ t) r r hx.a hx.b (by rw [ByteArray.size_append, ByteArray.size_append, hz3, hz0]; omega)) r fun _=>L_emp<|cy (U16_ok p (head3 x t.size) (usum x.a x.b (head3 x t.size ++ ⟨#[0, 0]⟩ ++ t)) hul (by omega)) r fun _=>nr<|eb r<|cy (WText_ok p ((head3 x t.size) ++ be (usum x.a x.b (head3 x t.size ++ ⟨#[0, 0]⟩ ++ t)) 2) t (by omega) (by omega)) r fun _=>nr<|ea r<|cy (Bytes_ok p ((head3 x t.size) ++ be (usum x.a x.b (head3 x t.size ++ ⟨#[0, 0]⟩ ++ t)) 2 ++ t)) r fun _=>lv (opv_extract r r) r<|lv (opv_extract r r) r ?_
  refine eb r<|nk<|jr ?_
  exact K_ret2 rfl rfl rfl () trivial rfl Ent.take
end Go.Proofs.YtpkcniedaabpoaaGreat
namespace Go.Proofs.YtpkcniedaabpoaaGreat
open Go.SLA
set_option maxRecDepth 100000
attribute [local irreducible] J L K QL Rg FSpec OpV OpX Rd Back
def enz : En := ⟨0, 0, 0, 0, 0, 0, 0, 0, 0, 0⟩
def En.at (x : En) (f g : Nat) : En := ⟨x.a0, x.a1, x.a2, x.a3, x.b0, x.b1, x.b2, x.b3, f, g⟩
/-- What is summed of the bytes of a datagram. -/
def summed (s : ByteArray) : ByteArray := s.extract 0 6 ++ ⟨#[0, 0]⟩ ++ s.extract 8 s.size
/-- The datagram that bytes are (its ends, what it carries), or why they are none. -/
def decU (x : En) (s : ByteArray) : En × ByteArray × Int :=
  if s.size < 8 then (enz, ByteArray.empty, 10) else if word s 4 < 8 ∨ 8200 < word s 4 then (enz, ByteArray.empty, 15) else if s.size < word s 4 then (enz, ByteArray.empty, 10) else if word s 4 < s.size then (enz, ByteArray.empty, 11)
  else if word s 6 ≠ 0 ∧ word s 6 ≠ usum x.a x.b (summed s) then (enz, ByteArray.empty, 12) else (x.at (word s 0) (word s 2), s.extract 8 s.size, 0)
theorem short4 {s : ByteArray} (h : s.size < 8) : (nextC 2 (nextC 2 (nextC 2 (nextC 2 (s, 0))))).2 ≠ 0 := fun e => by
  have h1 := nextC_size (c := 2) (q := nextC 2 (nextC 2 (nextC 2 (s, 0))))
  have h2 := nextC_size (c := 2) (q := nextC 2 (nextC 2 (s, 0)))
  have h3 := nextC_size (c := 2) (q := nextC 2 (s, 0))
  have h4 := nextC_size (c := 2) (q := (s, 0))
  have g1 := h1.2 e
  have g2 := h2.2 g1.1
  have g3 := h3.2 g2.1
  have g4 := h4.2 g3.1
  have : ((s, (0 : Int)) : ByteArray × Int).1.size = s.size := rfl
  omega
theorem RU16_zero (p : Nat) (s : ByteArray) (h : 2 ≤ s.size) : FSpec Tryz.prog 43 #[.pointer (some (ad p 0))] (cel p [.string s, .int .i64 0] 176) (fun _ : Unit => True) (fun _ => .int .i64 (word s 0)) (fun _ => cel p [.string (s.extract 2 s.size), .int .i64 0] 176) := RU16_ok p s h
attribute [local irreducible] be usum ones sumT word nextC
theorem UDecode_short (x : En) (s : ByteArray) (h : s.size < 8) : FSpec Tryz.prog 16 #[.agg [.int .u8 x.a0, .int .u8 x.a1, .int .u8 x.a2, .int .u8 x.a3].toArray, .agg [.int .u8 x.b0, .int .u8 x.b1, .int .u8 x.b2, .int .u8 x.b3].toArray, .string s] (emp) (fun _ : Unit => True) (fun _ => .tuple #[.agg (encEn (decU x s).1).toArray, .string (decU x s).2.1, .int .i64 (decU x s).2.2]) (fun _ => emp) := by
  refine en Tryz.func16 r fun σ F=>J_emp<|sr<|lx r (opx_box (l := [.int .u8 x.a0, .int .u8 x.a1, .int .u8 x.a2, .int .u8 x.a3]) r r) fun b3 _=>lx r (opx_box (l := [.int .u8 x.b0, .int .u8 x.b1, .int .u8 x.b2, .int .u8 x.b3]) r r) fun b4 _=>al r fun b6=>eb r<|nr<|ea r<|cy (Read_spec s) r fun p=>an r<|sr<|ls r<|ls r<|lv (opv_build r) r<|al r fun b10=>?_
  refine lx r (opx_store r r r (by simp [Value.oneCell'])) fun _ _=>nr<|ea r<|cy (RU16_spec p (s, 0).1 (s, 0).2) r fun _=>ea r<|cy (RU16_spec p (nextC 2 (s, 0)).1 (nextC 2 (s, 0)).2) r fun _=>?_
  first | refine fz r ?_ | refine fy r ?_
  refine lx r (opx_store r r r (by simp [Value.oneCell'])) fun _ _=>?_
  first | refine fz r ?_ | refine fy r ?_
  refine lx r (opx_store r r r (by simp [Value.oneCell'])) fun _ _=>nr<|ea r<|cy (RU16_spec p (nextC 2 (nextC 2 (s, 0))).1 (nextC 2 (nextC 2 (s, 0))).2) r fun _=>ea r<|cy (RU16_spec p (nextC 2 (nextC 2 (nextC 2 (s, 0)))).1 (nextC 2 (nextC 2 (nextC 2 (s, 0)))).2) r fun _=>eb r<|nj<|jb<|sa r<|cy (Err_spec p (nextC 2 (nextC 2 (nextC 2 (nextC 2 (s, 0))))).1 (nextC 2 (nextC 2 (nextC 2 (nextC 2 (s, 0))))).2) r fun _=>lv ((opv_neq r r).bool_t (short4 h)) r<|an r<|ct r<|sr<|lv (opv_build r) r ?_
  refine lx r (opx_store r r r (by simp [Value.oneCell'])) fun _ _=>eb r<|nk<|jr<|kq<|kd ?_
  exact K_ret3c rfl rfl rfl rfl rfl () trivial (by rw [show decU x s = (enz, ByteArray.empty, 10) from by unfold decU; (repeat' split) <;> first | rfl | (exfalso; omega)]; rfl) Ent.take
theorem UDecode_long (x : En) (s : ByteArray) (hx : okEn x) (h : ¬ s.size < 8) (hs : s.size ≤ 1000000) : FSpec Tryz.prog 16 #[.agg [.int .u8 x.a0, .int .u8 x.a1, .int .u8 x.a2, .int .u8 x.a3].toArray, .agg [.int .u8 x.b0, .int .u8 x.b1, .int .u8 x.b2, .int .u8 x.b3].toArray, .string s] (emp) (fun _ : Unit => True) (fun _ => .tuple #[.agg (encEn (decU x s).1).toArray, .string (decU x s).2.1, .int .i64 (decU x s).2.2]) (fun _ => emp) := by
  have hz6 : (s.extract 0 6).size = 6 := ext_size s 0 6 (by omega)
  have hz8 : (s.extract 8 s.size).size = s.size - 8 := ext_size s _ _ (Nat.le_refl _)
  have hz0 : (⟨#[0, 0]⟩ : ByteArray).size = 2 := rfl
  have hzs : (summed s).size = s.size := by unfold summed; rw [ByteArray.size_append, ByteArray.size_append, hz6, hz8, hz0]; omega
  refine en Tryz.func16 r fun σ F=>J_emp<|sr<|lx r (opx_box (l := [.int .u8 x.a0, .int .u8 x.a1, .int .u8 x.a2, .int .u8 x.a3]) r r) fun b3 _=>lx r (opx_box (l := [.int .u8 x.b0, .int .u8 x.b1, .int .u8 x.b2, .int .u8 x.b3]) r r) fun b4 _=>al r fun b6=>eb r<|nr<|ea r<|cy (Read_spec s) r fun p=>an r<|sr<|ls r<|ls r<|lv (opv_build r) r<|al r fun b10=>?_
  refine lx r (opx_store r r r (by simp [Value.oneCell'])) fun _ _=>nr<|ea r<|cy (RU16_zero p s (by omega)) r fun _=>ea r<|cy (RU16_at p 2 s (by omega)) r fun _=>?_
  first | refine fz r ?_ | refine fy r ?_
  refine lx r (opx_store r r r (by simp [Value.oneCell'])) fun _ _=>?_
  first | refine fz r ?_ | refine fy r ?_
  refine lx r (opx_store r r r (by simp [Value.oneCell'])) fun _ _=>nr<|ea r<|cy (RU16_at p 4 s (by omega)) r fun _=>ea r<|cy (RU16_at p 6 s (by omega)) r fun _=>eb r<|nj<|jb<|sa r<|cy (Err_spec p (s.extract 8 s.size) 0) r fun _=>lv ((opv_neq r r).bool_f (by decide)) r<|an r<|cf r<|sa r<|lv (opv_lss r r) r ?_
  refine ea r ?_
  refine L_gf rfl rfl (fun h1 => ?_) (fun h1 => ?_) (fun _ h => by cases h; rfl)
  · refine ea r<|L_gf_on h1 r r<|lv (opv_gtr r r) r<|lv (opv_pick_f r h1 r) r<|an r ?_
    refine J_cond rfl (fun h2 => ?_) (fun h2 => ?_)
    · refine sr<|lv (opv_build r) r ?_
      refine lx r (opx_store r r r (by simp [Value.oneCell'])) fun _ _=>eb r<|nk<|jr<|kq<|kd ?_
      exact K_ret3c rfl rfl rfl rfl rfl () trivial (by rw [show decU x s = (enz, ByteArray.empty, 15) from by unfold decU; (repeat' split) <;> first | rfl | (exfalso; omega)]; rfl) Ent.take
    · refine sb r ?_
      first | refine ll r ?_ | refine lv (opv_lenS r) r ?_
      refine lv (opv_gtr r r) r<|an r ?_
      refine J_cond rfl (fun h3 => ?_) (fun h3 => ?_)
      · refine sr<|lv (opv_build r) r ?_
        refine lx r (opx_store r r r (by simp [Value.oneCell'])) fun _ _=>eb r<|nk<|jr<|kq<|kd ?_
        exact K_ret3c rfl rfl rfl rfl rfl () trivial (by rw [show decU x s = (enz, ByteArray.empty, 10) from by unfold decU; (repeat' split) <;> first | rfl | (exfalso; omega)]; rfl) Ent.take
      · refine sb r ?_
        first | refine ll r ?_ | refine lv (opv_lenS r) r ?_
        refine lv (opv_lss r r) r<|an r ?_
        refine J_cond rfl (fun h4 => ?_) (fun h4 => ?_)
        · refine sr<|lv (opv_build r) r ?_
          refine lx r (opx_store r r r (by simp [Value.oneCell'])) fun _ _=>eb r<|nk<|jr<|kq<|kd ?_
          exact K_ret3c rfl rfl rfl rfl rfl () trivial (by rw [show decU x s = (enz, ByteArray.empty, 11) from by unfold decU; (repeat' split) <;> first | rfl | (exfalso; omega)]; rfl) Ent.take
        · refine js<|J_quiet Tryz.mixed (by kernel_rfl)<|qa r ?_
          first | refine qv (opv_neq r r) r ?_ | refine qv (opv_neqS r r) r ?_ | refine qv (opv_neqNil r r) r ?_ | refine qv (opv_neqB r r) r ?_
          refine qa r ?_
          refine Q_gt rfl rfl (fun h5 => ?_) (fun h5 => ?_) (fun _ h => by cases h; rfl)
          · refine qa r<|Q_gt_on h5 r r<|qv (opv_loadS r) r<|Q_gt_on h5 r r<|qv (opv_loadS r) r<|Q_gt_on h5 r r<|qa r<|Q_gt_on h5 r r<|qv ((opv_sliceShi r r (by omega)).as (congrArg (fun k => Value.string (s.extract 0 k)) (show Int.toNat 6 = 6 from r))) r<|Q_gt_on h5 r r<|qv (opv_addS r r (by rw [hz6]; decide)) r<|Q_gt_on h5 r r<|qa r<|Q_gt_on h5 r r<|qv ((opv_sliceSlo r r (by omega)).as (congrArg (fun k => Value.string (s.extract k s.size)) (show Int.toNat 8 = 8 from r))) r<|Q_gt_on h5 r r ?_
            refine qv ((opv_addS r r (by rw [ByteArray.size_append, hz6, hz0, hz8]; omega)).as (v' := .string (summed s)) r) r<|Q_gt_on h5 r r<|Q_call (usum_spec x.a x.b (summed s) r r hx.a hx.b (by omega)) r r (fun _ _ => r) (fun _ _ => Ent.refl _) r<|Q_gt_on h5 r r ?_
            first | refine qv (opv_neq r r) r ?_ | refine qv (opv_neqS r r) r ?_ | refine qv (opv_neqNil r r) r ?_ | refine qv (opv_neqB r r) r ?_
            refine qv (opv_pick_t r h5 r) r<|qa r<|qn<|kt ?_
            refine J_cond rfl (fun h6 => ?_) (fun h6 => ?_)
            · refine sr<|lv (opv_build r) r ?_
              refine lx r (opx_store r r r (by simp [Value.oneCell'])) fun _ _=>eb r<|nk<|jr<|kq<|kd ?_
              exact K_ret3c rfl rfl rfl rfl rfl () trivial (by rw [show decU x s = (enz, ByteArray.empty, 12) from by unfold decU; (repeat' split) <;> first | rfl | (exfalso; omega)]; rfl) Ent.take
            · refine skb<|js<|J_steps (cel b10 [.int .u8 x.a0, .int .u8 x.a1, .int .u8 x.a2, .int .u8 x.a3, .int .u8 x.b0, .int .u8 x.b1, .int .u8 x.b2, .int .u8 x.b3, .int .i64 (word s 0 : Nat), .int .i64 (word s 2 : Nat)] 32) (cel b10 [.int .u8 x.a0, .int .u8 x.a1, .int .u8 x.a2, .int .u8 x.a3, .int .u8 x.b0, .int .u8 x.b1, .int .u8 x.b2, .int .u8 x.b3, .int .i64 (word s 0 : Nat), .int .i64 (word s 2 : Nat)] 32) [] Tryz.mixed<|R_ts 0 r (by kernel_rfl) (opv_loadS r) r<|pe 1 r r<|pn 2 r (opx_call0 (Rest_ok p (s.extract 8 s.size)) r r r) fun _ _=>?_
              refine pn 3 r (opx_store r r r (by simp [Value.oneCell'])) fun _ _=>pe 4 r r<|pe 5 r r<|dn<|kt<|jr ?_
              exact K_ret3c rfl rfl rfl rfl rfl () trivial (by rw [show decU x s = (x.at (word s 0) (word s 2), s.extract 8 s.size, 0) from by unfold decU; (repeat' split) <;> first | rfl | (exfalso; omega)]; rfl) Ent.take
          · refine Q_gt_off h5 rfl rfl ?_ (fun _ h => by cases h; rfl)
            refine Q_gt_off h5 rfl rfl ?_ (fun _ h => by cases h; rfl)
            refine Q_gt_off h5 rfl rfl ?_ (fun _ h => by cases h; rfl)
            refine Q_gt_off h5 rfl rfl ?_ (fun _ h => by cases h; rfl)
            refine Q_gt_off h5 rfl rfl ?_ (fun _ h => by cases h; rfl)
            refine Q_gt_off h5 rfl rfl ?_ (fun _ h => by cases h; rfl)
            refine Q_gt_off h5 rfl rfl ?_ (fun _ h => by cases h; rfl)
            refine Q_gt_off h5 rfl rfl ?_ (fun _ h => by cases h; rfl)
            refine Q_gt_off h5 rfl rfl ?_ (fun _ h => by cases h; rfl)
            refine Q_gt_off h5 rfl rfl ?_ (fun _ h => by cases h; rfl)
            refine qv (opv_pick_f r h5 r) r<|qa r<|qn<|kt<|cf r<|skb<|js<|J_steps (cel b10 [.int .u8 x.a0, .int .u8 x.a1, .int .u8 x.a2, .int .u8 x.a3, .int .u8 x.b0, .int .u8 x.b1, .int .u8 x.b2, .int .u8 x.b3, .int .i64 (word s 0 : Nat), .int .i64 (word s 2 : Nat)] 32) (cel b10 [.int .u8 x.a0, .int .u8 x.a1, .int .u8 x.a2, .int .u8 x.a3, .int .u8 x.b0, .int .u8 x.b1, .int .u8 x.b2, .int .u8 x.b3, .int .i64 (word s 0 : Nat), .int .i64 (word s 2 : Nat)] 32) [] Tryz.mixed<|R_ts 0 r (by kernel_rfl) (opv_loadS r) r<|pe 1 r r<|pn 2 r (opx_call0 (Rest_ok p (s.extract 8 s.size)) r r r) fun _ _=>?_
            refine pn 3 r (opx_store r r r (by simp [Value.oneCell'])) fun _ _=>pe 4 r r<|pe 5 r r<|dn<|kt<|jr ?_
            exact K_ret3c rfl rfl rfl rfl rfl () trivial (by rw [show decU x s = (x.at (word s 0) (word s 2), s.extract 8 s.size, 0) from by unfold decU; (repeat' split) <;> first | rfl | (exfalso; omega)]; rfl) Ent.take
  · refine L_gf_off h1 rfl rfl ?_ (fun _ h => by cases h; rfl)
    refine lv (opv_pick_t r h1 r) r<|an r<|ct r<|sr<|lv (opv_build r) r ?_
    refine lx r (opx_store r r r (by simp [Value.oneCell'])) fun _ _=>eb r<|nk<|jr<|kq<|kd ?_
    exact K_ret3c rfl rfl rfl rfl rfl () trivial (by rw [show decU x s = (enz, ByteArray.empty, 15) from by unfold decU; (repeat' split) <;> first | rfl | (exfalso; omega)]; rfl) Ent.take
theorem UDecode_spec (x : En) (s : ByteArray) (hx : okEn x) (hs : s.size ≤ 1000000) : FSpec Tryz.prog 16 #[.agg [.int .u8 x.a0, .int .u8 x.a1, .int .u8 x.a2, .int .u8 x.a3].toArray, .agg [.int .u8 x.b0, .int .u8 x.b1, .int .u8 x.b2, .int .u8 x.b3].toArray, .string s] emp (fun _ : Unit => True) (fun _ => .tuple #[.agg (encEn (decU x s).1).toArray, .string (decU x s).2.1, .int .i64 (decU x s).2.2]) (fun _ => emp) := by
  by_cases h : s.size < 8
  · exact UDecode_short x s h
  · exact UDecode_long x s hx h hs
end Go.Proofs.YtpkcniedaabpoaaGreat
namespace Go.Proofs.YtpkcniedaabpoaaGreat
open Go.SLA
set_option maxRecDepth 100000
attribute [local irreducible] J L K QL Rg FSpec OpV OpX Rd Back
theorem datag_size (x : En) (t : ByteArray) : (datag x t).size = 8 + t.size := by
  unfold datag head3
  rw [ByteArray.size_append, ByteArray.size_append, ByteArray.size_append, ByteArray.size_append, be_size, be_size, be_size, be_size]
attribute [local irreducible] be usum ones sumT word nextC datag
theorem Encode_longer (x : En) (t : ByteArray) (hx : okEn x) (h : portsB x) (ht : 8192 < t.size) : FSpec Tryz.prog 8 #[.agg (encEn x).toArray, .string t] (emp) (fun _ : Unit => True) (fun _ => .tuple #[.string (ByteArray.empty), .int .i64 11]) (fun _ => emp) := by
  refine en Tryz.func8 r fun σ F=>J_emp<|sr<|lx r (opx_box (l := [.int .u8 x.a0, .int .u8 x.a1, .int .u8 x.a2, .int .u8 x.a3, .int .u8 x.b0, .int .u8 x.b1, .int .u8 x.b2, .int .u8 x.b3, .int .i64 x.f, .int .i64 x.g]) r r) fun b2 _=>eb r<|nr<|lv (opv_build r) r<|bx r fun p=>an r<|js ?_
  refine J_imp _ WrP_new ?_
  refine jg<|ea r ?_
  first | refine fz r ?_ | refine fy r ?_
  refine ld r r<|cy (U16_n p (bytesL []) x.f h.1 (by decide)) r fun _=>nj ?_
  rw [nil_app]
  refine jg<|ea r ?_
  first | refine fz r ?_ | refine fy r ?_
  refine ld r r<|cy (U16_n p (be x.f.toNat 2) x.g h.2 (by rw [be_size]; decide)) r fun _=>nr<|ea r<|cy (Bytes_ok p (be x.f.toNat 2 ++ be x.g.toNat 2)) r fun _=>ea r<|lv (opv_extract r r) r<|lv (opv_extract r r) r<|eb r<|nj<|jb<|sa r<|lv ((opv_neq r r).bool_f (by decide)) r<|an r<|cf r<|sa r ?_
  first | refine ll r ?_ | refine lv (opv_lenS r) r ?_
  refine lv ((opv_gtr r r).bool_t (by omega)) r<|an r<|ct r<|sb r<|nk<|jr<|kq<|kd ?_
  exact K_ret2 rfl rfl rfl () trivial rfl Ent.take
/-- What Encode answers. -/
def encU (x : En) (t : ByteArray) : ByteArray × Int := if ¬ portsB x then (ByteArray.empty, 1) else if 8192 < t.size then (ByteArray.empty, 11) else (datag x t, 0)
theorem Encode_any (x : En) (t : ByteArray) (hx : okEn x) : FSpec Tryz.prog 8 #[.agg (encEn x).toArray, .string t] emp (fun _ : Unit => True) (fun _ => .tuple #[.string (encU x t).1, .int .i64 (encU x t).2]) (fun _ => emp) := by
  unfold encU
  by_cases h : portsB x
  · rw [if_neg (fun n => n h)]
    by_cases hl : 8192 < t.size
    · rw [if_pos hl]; exact Encode_longer x t hx h hl
    · rw [if_neg hl]; exact Encode_ok x t hx h (by omega)
  · rw [if_pos h]; exact Encode_bad x t hx h
theorem encU_ok {x : En} {t : ByteArray} (h : ¬ (encU x t).2 ≠ 0) : portsB x ∧ t.size ≤ 8192 ∧ encU x t = (datag x t, 0) := by
  unfold encU at h ⊢
  split at h
  · exact absurd (show (1 : Int) ≠ 0 by decide) h
  · rename_i hn
    rw [if_neg hn]
    split at h
    · exact absurd (show (11 : Int) ≠ 0 by decide) h
    · rename_i hl
      rw [if_neg hl]
      exact ⟨Classical.not_not.1 hn, by omega, rfl⟩
theorem head3_size (x : En) (n : Nat) : (head3 x n).size = 6 := by unfold head3; simp only [ByteArray.size_append, be_size]
theorem head3_w0 {x : En} (h : portsB x) (n : Nat) : word (head3 x n) 0 = x.f.toNat := by
  unfold portsB at h
  unfold head3
  rw [word_app_l (by simp only [ByteArray.size_append, be_size]; omega), word_app_l (by simp only [be_size]; omega)]
  exact word_be (by omega)
theorem head3_w2 {x : En} (h : portsB x) (n : Nat) : word (head3 x n) 2 = x.g.toNat := by
  unfold portsB at h
  unfold head3
  rw [word_app_l (by simp only [ByteArray.size_append, be_size]; omega), word_app_r (by simp only [be_size]; omega)]
  simp only [be_size]
  exact word_be (by omega)
theorem head3_w4 (x : En) {n : Nat} (h : n ≤ 8192) : word (head3 x n) 4 = 8 + n := by
  unfold head3
  rw [word_app_r (by simp only [ByteArray.size_append, be_size]; omega)]
  simp only [ByteArray.size_append, be_size]
  exact word_be (by omega)
/-- A datagram with other bytes where its sum is. -/
def withSum (x : En) (u t : ByteArray) : ByteArray := head3 x t.size ++ u ++ t
theorem datag_eq (x : En) (t : ByteArray) : datag x t = withSum x (be (usum x.a x.b (withSum x ⟨#[0, 0]⟩ t)) 2) t := by unfold datag; rfl
section
variable {x : En} {u t : ByteArray}
theorem ws_size (hu : u.size = 2) : (withSum x u t).size = 8 + t.size := by unfold withSum; rw [ByteArray.size_append, ByteArray.size_append, head3_size, hu]
theorem ws_w0 (hu : u.size = 2) (h : portsB x) : word (withSum x u t) 0 = x.f.toNat := by
  have := head3_size x t.size
  unfold withSum
  rw [word_app_l (by rw [ByteArray.size_append]; omega), word_app_l (by omega), head3_w0 h]
theorem ws_w2 (hu : u.size = 2) (h : portsB x) : word (withSum x u t) 2 = x.g.toNat := by
  have := head3_size x t.size
  unfold withSum
  rw [word_app_l (by rw [ByteArray.size_append]; omega), word_app_l (by omega), head3_w2 h]
theorem ws_w4 (hu : u.size = 2) (h : t.size ≤ 8192) : word (withSum x u t) 4 = 8 + t.size := by
  have := head3_size x t.size
  unfold withSum
  rw [word_app_l (by rw [ByteArray.size_append]; omega), word_app_l (by omega), head3_w4 x h]
theorem ws_w6 (hu : u.size = 2) : word (withSum x u t) 6 = word u 0 := by
  have := head3_size x t.size
  unfold withSum
  rw [word_app_l (by rw [ByteArray.size_append]; omega), word_app_r (by omega), this]
theorem ws_rest (hu : u.size = 2) : (withSum x u t).extract 8 (withSum x u t).size = t := by
  have hz := ws_size (x := x) (t := t) hu
  have e : (head3 x t.size ++ u).size = 8 := by rw [ByteArray.size_append, head3_size, hu]
  rw [hz]
  unfold withSum
  exact ByteArray.extract_append_eq_right (by rw [e]) (by rw [e])
theorem ws_head (hu : u.size = 2) : (withSum x u t).extract 0 6 = head3 x t.size := by
  unfold withSum
  rw [ByteArray.append_assoc]
  exact ByteArray.extract_append_eq_left (by rw [head3_size])
theorem ws_summed (hu : u.size = 2) : summed (withSum x u t) = withSum x ⟨#[0, 0]⟩ t := by
  unfold summed
  rw [ws_rest hu, ws_head hu]
  rfl
theorem ws_decU (hu : u.size = 2) (h : portsB x) (ht : t.size ≤ 8192) (y : En) (hs : word u 0 = 0 ∨ word u 0 = usum y.a y.b (withSum x ⟨#[0, 0]⟩ t)) : decU y (withSum x u t) = (y.at x.f.toNat x.g.toNat, t, 0) := by
  have h0 := ws_size (x := x) (t := t) hu
  have h1 := ws_w4 (x := x) hu ht
  have h2 := ws_w6 (x := x) (t := t) hu
  have h3 := ws_summed (x := x) (t := t) hu
  unfold decU
  rw [if_neg (by omega), if_neg (by omega), if_neg (by omega), if_neg (by omega), h3, h2, if_neg (by omega), ws_w0 hu h, ws_w2 hu h, ws_rest hu]
end
theorem datag_decU {x : En} {t : ByteArray} (h : portsB x) (ht : t.size ≤ 8192) : decU x (datag x t) = (x, t, 0) := by
  rw [datag_eq, ws_decU (be_size _ _) h ht x (.inr (word_be (usum_le _ _ _)))]
  unfold portsB at h
  have e1 : ((x.f.toNat : Nat) : Int) = x.f := by omega
  have e2 : ((x.g.toNat : Nat) : Int) = x.g := by omega
  unfold En.at
  rw [e1, e2]
theorem UD_back (x : En) (t : ByteArray) (hx : okEn x) (h : portsB x) (ht : t.size ≤ 8192) : FSpec Tryz.prog 16 #[.agg [.int .u8 x.a0, .int .u8 x.a1, .int .u8 x.a2, .int .u8 x.a3].toArray, .agg [.int .u8 x.b0, .int .u8 x.b1, .int .u8 x.b2, .int .u8 x.b3].toArray, .string (datag x t)] emp (fun _ : Unit => True) (fun _ => .tuple #[.agg [.int .u8 x.a0, .int .u8 x.a1, .int .u8 x.a2, .int .u8 x.a3, .int .u8 x.b0, .int .u8 x.b1, .int .u8 x.b2, .int .u8 x.b3, .int .i64 x.f, .int .i64 x.g].toArray, .string t, .int .i64 0]) (fun _ => emp) := by
  have := UDecode_spec x (datag x t) hx (by rw [datag_size]; omega)
  rw [datag_decU h ht] at this
  exact this
attribute [local irreducible] encU decU withSum
end Go.Proofs.YtpkcniedaabpoaaGreat
namespace Go.SLA
variable {prog : Program} {σ : World} {n : Nat} {E : Env} {P : HProp} {Q : Exit → Act → World → Prop}
theorem opv_andNot {d : Option Tmp} {ty : TypeId} {pos : String} {aft : Array Edge} {g : Option (Nat × Bool)} {x y : Operand} {t t' : TypeId} {k : IntKind} {a b : Int} (hx : ev E x = some (.int k a)) (hy : ev E y = some (.int k b)) : OpV prog σ n E P ⟨d, .binOp .andNot t x y t', ty, pos, aft, g⟩ (.int k (k.wrap (BitVec.ofInt k.bits a &&& ~~~ BitVec.ofInt k.bits b).toNat)) :=
  fun _ _ ha _ => by simp [execOp, ha.ev hx, ha.ev hy, eqGuard, binOp, Op.intBits]
theorem J_scope {X : Type} {c : Code} (l : Nat) (rest : Code) (hf : findLabel c l = some rest) (E' : X → Env) (P' : X → HProp) (φ : X → Prop) (μ : X → Nat)
    (first : J prog σ n c (Exit.jump l (fun a w => ∃ x, φ x ∧ Agree n (E' x) a ∧ Sat σ w (P' x)) Q) E P)
    (pass : ∀ x, φ x → J prog σ n rest (Exit.jump l (fun a w => ∃ y, (φ y ∧ μ y < μ x) ∧ Agree n (E' y) a ∧ Sat σ w (P' y)) Q) (E' x) (P' x)) : J prog σ n (.scope c) Q E P := by
  intro a w ha hw b k cs
  have hg : gotoIn l (.inScope c :: k) = some (.code rest :: .inScope c :: k) := by simp [gotoIn, hf]
  have key : ∀ m x a w, μ x = m → φ x → Agree n (E' x) a → Sat σ w (P' x) → ∃ e a' w', Q e a' w' ∧ Arrives prog (lone (b.at a (.code rest :: .inScope c :: k)) cs w) b k cs e a' w' := by
    intro m
    induction m using Nat.strongRecOn with
    | _ m ih =>
      intro x a w hm hx ha hw
      obtain ⟨e, a₁, w₁, hq, harr⟩ := pass x hx a w ha hw b (.inScope c :: k) cs
      cases e with
      | normal => exact ⟨.normal, a₁, w₁, hq, Steps.trans harr (.one step_inScope)⟩
      | exit id => exact ⟨.exit id, a₁, w₁, hq, fun k' hk => harr k' (by simp [exitTo, hk])⟩
      | goto l' =>
        obtain ⟨rfl, y, ⟨hy, hlt⟩, ha₁, hw₁⟩ := hq
        obtain ⟨e₂, a₂, w₂, hq₂, harr₂⟩ := ih (μ y) (by omega) y a₁ w₁ rfl hy ha₁ hw₁
        exact ⟨e₂, a₂, w₂, hq₂, .of_steps (harr _ hg) harr₂⟩
      | ret => exact ⟨_, a₁, w₁, hq, harr⟩
      | panic ch => exact ⟨_, a₁, w₁, hq, harr⟩
      | outgrown => exact ⟨_, a₁, w₁, hq, harr⟩
  obtain ⟨e, a₁, w₁, hq, harr⟩ := first a w ha hw b (.inScope c :: k) cs
  cases e with
  | normal => exact ⟨.normal, a₁, w₁, hq, .head step_scope (Steps.trans harr (.one step_inScope))⟩
  | exit id => exact ⟨.exit id, a₁, w₁, hq, fun k' hk => .head step_scope (harr k' (by simp [exitTo, hk]))⟩
  | goto l' =>
    obtain ⟨rfl, x, hx, ha₁, hw₁⟩ := hq
    obtain ⟨e₂, a₂, w₂, hq₂, harr₂⟩ := key _ x a₁ w₁ rfl hx ha₁ hw₁
    exact ⟨e₂, a₂, w₂, hq₂, .of_steps (.head step_scope (harr _ hg)) harr₂⟩
  | ret => exact ⟨_, a₁, w₁, hq, .of_steps (.one step_scope) harr⟩
  | panic ch => exact ⟨_, a₁, w₁, hq, .of_steps (.one step_scope) harr⟩
  | outgrown => exact ⟨_, a₁, w₁, hq, .of_steps (.one step_scope) harr⟩
theorem K_jump_ret {l : Nat} {J : Act → World → Prop} (h : K σ n Q .ret E P) : K σ n (Exit.jump l J Q) .ret E P := h
theorem K_goto1 {X : Type} {l : Nat} {E' : X → Env} {P' : X → HProp} {φ : X → Prop} (x : X) (hx : φ x) (hs : Sub (E' x) E) (hp : Ent P (P' x)) : K σ n (Exit.jump l (fun a w => ∃ x, φ x ∧ Agree n (E' x) a ∧ Sat σ w (P' x)) Q) (.goto l) E P := fun _ _ ha hw => ⟨rfl, x, hx, ha.sub hs, hw.ent hp⟩
theorem K_goto2 {X : Type} {l : Nat} {E' : X → Env} {P' : X → HProp} {φ : X → Prop} {μ : X → Nat} {x : X} (y : X) (hy : φ y) (hm : μ y < μ x) (hs : Sub (E' y) E) (hp : Ent P (P' y)) : K σ n (Exit.jump l (fun a w => ∃ y, (φ y ∧ μ y < μ x) ∧ Agree n (E' y) a ∧ Sat σ w (P' y)) Q) (.goto l) E P := fun _ _ ha hw => ⟨rfl, y, ⟨hy, hm⟩, ha.sub hs, hw.ent hp⟩
end Go.SLA
namespace Go.Proofs.YtpkcniedaabpoaaGreat
open Go.SLA
set_option maxRecDepth 100000
attribute [local irreducible] J L K QL Rg FSpec OpV OpX Rd Back
/-- How many bytes a part carries at most. -/
def roomN (m : Nat) : Nat := (m - 39) / 8 * 8
def sizeB (m : Int) : Prop := 64 ≤ m ∧ m ≤ 1518
instance (m : Int) : Decidable (sizeB m) := inferInstanceAs (Decidable (_ ∧ _))
theorem roomN_ge {m : Nat} (h : 64 ≤ m) : 24 ≤ roomN m ∧ roomN m ≤ m - 39 ∧ m - 39 < roomN m + 8 ∧ roomN m % 8 = 0 := by unfold roomN; omega
theorem andNot7 : ∀ x : Nat, x < 1500 → (BitVec.ofInt 64 (x : Int) &&& ~~~ BitVec.ofInt 64 7).toNat = x / 8 * 8 := by decide +kernel
theorem clear7 {x : Nat} (h : x < 1500) : Value.int .i64 (IntKind.i64.wrap (((BitVec.ofInt IntKind.i64.bits (x : Int) &&& ~~~ BitVec.ofInt IntKind.i64.bits 7).toNat : Nat) : Int)) = .int .i64 ((x / 8 * 8 : Nat) : Int) := by
  have := andNot7 x h
  show Value.int .i64 (IntKind.i64.wrap (((BitVec.ofInt 64 (x : Int) &&& ~~~ BitVec.ofInt 64 7).toNat : Nat) : Int)) = _
  rw [this, Go.IntWalk.i64_in _ (by omega)]
theorem whole_spec (m : Int) (h : -9000000000000000000 ≤ m ∧ m ≤ 9000000000000000000) : FSpec Tryz.prog 29 #[.int .i64 m] (emp) (fun _ : Unit => True) (fun _ => .int .i64 (m - 39)) (fun _ => emp) := by
  refine en Tryz.func29 r fun σ F=>san r<|sa r ?_
  first | refine lv (opv_sub64 r r (by omega)) r ?_ | refine lv (opv_sub r r) r ?_
  first | refine lv (opv_sub64 r r (by omega)) r ?_ | refine lv (opv_sub r r) r ?_
  refine an r<|jr ?_
  exact K_ret1 rfl rfl () trivial (congrArg (Value.int .i64) (by omega)) (Ent.refl _)
theorem Room_bad (m : Int) (h : ¬ sizeB m) : FSpec Tryz.prog 28 #[.int .i64 m] (emp) (fun _ : Unit => True) (fun _ => .tuple #[.int .i64 0, .int .i64 1]) (fun _ => emp) := by
  unfold sizeB at h
  refine en Tryz.func28 r fun σ F=>sb r<|nj<|sa r<|lv (opv_lss r r) r<|ea r ?_
  refine L_gf rfl rfl (fun h1 => ?_) (fun h1 => ?_) (fun _ h => by cases h; rfl)
  · refine ea r<|L_gf_on h1 r r<|lv (opv_gtr r r) r<|lv (opv_pick_f r h1 r) r<|nk ?_
    refine J_cond rfl (fun h2 => ?_) (fun h2 => by exfalso; omega)
    refine sb r<|nk<|jr<|kd ?_
    exact K_ret2 rfl rfl rfl () trivial (rfl) (Ent.refl _)
  · refine L_gf_off h1 rfl rfl ?_ (fun _ h => by cases h; rfl)
    refine lv (opv_pick_t r h1 r) r<|nt r<|sb r<|nk<|jr<|kd ?_
    exact K_ret2 rfl rfl rfl () trivial (rfl) (Ent.refl _)
theorem Room_ok (m : Nat) (h : 64 ≤ m ∧ m ≤ 1518) : FSpec Tryz.prog 28 #[.int .i64 m] (emp) (fun _ : Unit => True) (fun _ => .tuple #[.int .i64 (roomN m : Nat), .int .i64 0]) (fun _ => emp) := by
  refine en Tryz.func28 r fun σ F=>sb r<|nj<|sa r<|lv ((opv_lss r r).bool_f (by omega)) r<|ea r<|go r<|ea r<|go r<|lv ((opv_gtr r r).bool_f (by omega)) r ?_
  first | refine ea r ?_ | refine lv (opv_pick r r r) r ?_
  refine nf r<|sk<|sa r<|cy (whole_spec m (by omega)) r fun _=>L_emp ?_
  rw [show (m : Int) - 39 = ((m - 39 : Nat) : Int) by omega]
  refine lv ((opv_andNot r r).as (clear7 (x := m - 39) (by omega))) r<|eb r<|nk<|jr ?_
  exact K_ret2 rfl rfl rfl () trivial (rfl) (Ent.refl _)
attribute [local irreducible] roomN
end Go.Proofs.YtpkcniedaabpoaaGreat
namespace Go.SLA
variable {prog : Program} {σ : World} {n : Nat} {E : Env} {P : HProp} {Q : Exit → Act → World → Prop}
theorem J_scope_straight {c : Code} (h : J prog σ n c (Exit.noGoto Q) E P) : J prog σ n (.scope c) Q E P := fun a w ha hw => wp_scope_straight (h a w ha hw)
theorem K_str_ret (h : K σ n Q .ret E P) : K σ n (Exit.noGoto Q) .ret E P := h
end Go.SLA
namespace Go.Proofs.YtpkcniedaabpoaaGreat
open Go.SLA
set_option maxRecDepth 100000
attribute [local irreducible] J L K QL Rg FSpec OpV OpX Rd Back
structure Pk where
  id : Int
  more : Bool
  off : Int
  ttl : Int
  proto : Int
  s0 : Int
  s1 : Int
  s2 : Int
  s3 : Int
  d0 : Int
  d1 : Int
  d2 : Int
  d3 : Int
  data : ByteArray
def encPk (x : Pk) : List Value := [.int .i64 x.id, .bool x.more, .int .i64 x.off, .int .i64 x.ttl, .int .i64 x.proto, .int .u8 x.s0, .int .u8 x.s1, .int .u8 x.s2, .int .u8 x.s3, .int .u8 x.d0, .int .u8 x.d1, .int .u8 x.d2, .int .u8 x.d3, .string x.data]
def okPk (x : Pk) : Prop := (Lit.int .i64 x.id).wf = true ∧ (Lit.int .i64 x.off).wf = true ∧ (Lit.int .i64 x.ttl).wf = true ∧ (Lit.int .i64 x.proto).wf = true ∧ (Lit.int .u8 x.s0).wf = true ∧ (Lit.int .u8 x.s1).wf = true ∧ (Lit.int .u8 x.s2).wf = true ∧ (Lit.int .u8 x.s3).wf = true ∧ (Lit.int .u8 x.d0).wf = true ∧ (Lit.int .u8 x.d1).wf = true ∧ (Lit.int .u8 x.d2).wf = true ∧ (Lit.int .u8 x.d3).wf = true ∧ x.data.size ≤ maxLen
theorem encPk_len (x : Pk) : (encPk x).length = 14 := rfl
theorem encPk_one (p : Pk) : ∀ u ∈ encPk p, u.oneCell' = true := by
  intro u hu
  simp only [encPk, List.mem_cons, List.not_mem_nil, or_false] at hu
  rcases hu with rfl | rfl | rfl | rfl | rfl | rfl | rfl | rfl | rfl | rfl | rfl | rfl | rfl | rfl <;> rfl
/-- The part of a packet from a on, up to e. -/
def prt (p : Pk) (a e : Nat) : Pk := ⟨p.id, decide (e < p.data.size), ((a / 8 : Nat) : Int), p.ttl, p.proto, p.s0, p.s1, p.s2, p.s3, p.d0, p.d1, p.d2, p.d3, p.data.extract a e⟩
/-- The parts of a packet from a on, of r bytes each but the last one, which has w at most. -/
def splitL (p : Pk) (w r : Nat) (a : Nat) : List Pk := if h : a + w < p.data.size ∧ 0 < r then prt p a (a + r) :: splitL p w r (a + r) else [prt p a p.data.size]
termination_by p.data.size - a
theorem splitL_a {p : Pk} {w r a : Nat} (h : a + w < p.data.size) (hr : 0 < r) : splitL p w r a = prt p a (a + r) :: splitL p w r (a + r) := by rw [splitL, dif_pos ⟨h, hr⟩]
theorem splitL_b {p : Pk} {w r a : Nat} (h : ¬ a + w < p.data.size) : splitL p w r a = [prt p a p.data.size] := by rw [splitL, dif_neg (fun n => h n.1)]
/-- Why a packet becomes no parts; 0: it does. -/
def codeS (p : Pk) (m : Int) : Int := if ¬ sizeB m then 1 else if p.more = true ∨ p.off ≠ 0 then 15 else if 65515 < p.data.size then 11 else 0
theorem codeS_ok {p : Pk} {m : Int} (h : codeS p m = 0) : sizeB m ∧ p.more = false ∧ p.off = 0 ∧ p.data.size ≤ 65515 := by
  unfold codeS at h
  split at h
  · cases h
  · rename_i h1
    split at h
    · cases h
    · rename_i h2
      split at h
      · cases h
      · rename_i h3
        refine ⟨Classical.not_not.1 h1, ?_, ?_, by omega⟩
        · cases hm : p.more with
          | false => rfl
          | true => exact absurd (.inl hm) h2
        · exact Classical.not_not.1 fun n => h2 (.inr n)
attribute [local irreducible] roomN
theorem part_spec (p : Pk) (a e : Nat) (h : a ≤ e) (he : e ≤ p.data.size) (hd : p.data.size ≤ 1000000000) : FSpec Tryz.prog 30 #[.agg [.int .i64 p.id, .bool p.more, .int .i64 p.off, .int .i64 p.ttl, .int .i64 p.proto, .int .u8 p.s0, .int .u8 p.s1, .int .u8 p.s2, .int .u8 p.s3, .int .u8 p.d0, .int .u8 p.d1, .int .u8 p.d2, .int .u8 p.d3, .string p.data].toArray, .int .i64 (a : Nat), .int .i64 (e : Nat)] (emp) (fun _ : Unit => True) (fun _ => .agg (encPk (prt p a e)).toArray) (fun _ => emp) := by
  refine en Tryz.func30 r fun σ F=>J_emp<|sr<|lx r (opx_box (l := [.int .i64 p.id, .bool p.more, .int .i64 p.off, .int .i64 p.ttl, .int .i64 p.proto, .int .u8 p.s0, .int .u8 p.s1, .int .u8 p.s2, .int .u8 p.s3, .int .u8 p.d0, .int .u8 p.d1, .int .u8 p.d2, .int .u8 p.d3, .string p.data]) r r) fun b3 _=>al r fun b6=>nj<|J_steps (emp) (cel b3 [.int .i64 p.id, .bool p.more, .int .i64 p.off, .int .i64 p.ttl, .int .i64 p.proto, .int .u8 p.s0, .int .u8 p.s1, .int .u8 p.s2, .int .u8 p.s3, .int .u8 p.d0, .int .u8 p.d1, .int .u8 p.d2, .int .u8 p.d3, .string p.data] 39) [13, 15, 17] Tryz.mixed<|pe 0 r r ?_
  first | refine ps 1 r (opv_fieldAddr0 r) ?_ | refine ps 1 r (opv_fieldAddr r) ?_
  refine R_ts 2 r (by kernel_rfl) (opv_load r (Rd.look r)) r ?_
  first | refine ps 3 r (opv_lenL r) ?_ | refine ps 3 r (opv_lenS r) ?_
  refine ps 4 r ((opv_lss r r).as (v' := .bool (decide (e < p.data.size))) (congrArg Value.bool (decide_eq_decide.2 (by omega))))<|pe 5 r r<|ps 6 r ((opv_quoP r r (by omega)).as (v' := .int .i64 ((a / 8 : Nat) : Int)) r) ?_
  first | refine ps 7 r (opv_fieldAddr0 r) ?_ | refine ps 7 r (opv_fieldAddr r) ?_
  refine R_ts 8 r (by kernel_rfl) (opv_load r (Rd.look r)) r<|pe 9 r r<|pe 10 r r<|ps 11 r ((opv_sliceS r r r (by omega)).as (v' := .string (p.data.extract a e)) (by rw [Int.toNat_natCast, Int.toNat_natCast])) ?_
  first | refine ps 12 r (opv_fieldAddr0 r) ?_ | refine ps 12 r (opv_fieldAddr r) ?_
  refine R_o 13 r r (by kernel_rfl) (opx_store r r r (by simp [Value.oneCell'])) fun _ _=>?_
  first | refine R_q 14 r (by kernel_rfl) (opv_fieldAddr0 r) r ?_ | refine R_q 14 r (by kernel_rfl) (opv_fieldAddr r) r ?_
  refine R_o 15 r r (by kernel_rfl) (opx_store r r r (by simp [Value.oneCell'])) fun _ _=>?_
  first | refine R_q 16 r (by kernel_rfl) (opv_fieldAddr0 r) r ?_ | refine R_q 16 r (by kernel_rfl) (opv_fieldAddr r) r ?_
  refine R_o 17 r r (by kernel_rfl) (opx_store r r r (by simp [Value.oneCell'])) fun _ _=>dn<|kt<|sr<|ls r ?_
  refine lx r (opx_store r r r (by simp [Value.oneCell'])) fun _ _=>nk<|jr ?_
  exact K_ret1c (Q := fun _ _ _ => True) rfl rfl rfl () trivial rfl Ent.take
theorem Split_size (p : Pk) (m : Int) (h : ¬ sizeB m) : FSpec Tryz.prog 9 #[.agg [.int .i64 p.id, .bool p.more, .int .i64 p.off, .int .i64 p.ttl, .int .i64 p.proto, .int .u8 p.s0, .int .u8 p.s1, .int .u8 p.s2, .int .u8 p.s3, .int .u8 p.d0, .int .u8 p.d1, .int .u8 p.d2, .int .u8 p.d3, .string p.data].toArray, .int .i64 m] (emp) (fun _ : Unit => True) (fun _ => .tuple #[.slice none 0 0, .int .i64 1]) (fun _ => emp) := by
  refine en Tryz.func9 r fun σ F=>J_emp<|sr<|lx r (opx_box (l := [.int .i64 p.id, .bool p.more, .int .i64 p.off, .int .i64 p.ttl, .int .i64 p.proto, .int .u8 p.s0, .int .u8 p.s1, .int .u8 p.s2, .int .u8 p.s3, .int .u8 p.d0, .int .u8 p.d1, .int .u8 p.d2, .int .u8 p.d3, .string p.data]) r r) fun b2 _=>eb r<|nk<|J_scope_straight<|sa r<|cy (Room_bad m h) r fun _=>L_emp<|ea r<|lv (opv_extract r r) r<|lv (opv_extract r r) r<|eb r<|nj<|jb ?_
  refine sa r<|lv ((opv_neq r r).bool_t (by decide)) r<|an r<|ct r<|sr<|ec r<|nk<|jr<|kq<|kd<|K_str_ret ?_
  exact K_ret2 rfl rfl rfl () trivial (rfl) Ent.take
theorem Split_field (p : Pk) (m : Nat) (h : 64 ≤ m ∧ m ≤ 1518) (hf : p.more = true ∨ p.off ≠ 0) : FSpec Tryz.prog 9 #[.agg [.int .i64 p.id, .bool p.more, .int .i64 p.off, .int .i64 p.ttl, .int .i64 p.proto, .int .u8 p.s0, .int .u8 p.s1, .int .u8 p.s2, .int .u8 p.s3, .int .u8 p.d0, .int .u8 p.d1, .int .u8 p.d2, .int .u8 p.d3, .string p.data].toArray, .int .i64 (m : Nat)] (emp) (fun _ : Unit => True) (fun _ => .tuple #[.slice none 0 0, .int .i64 15]) (fun _ => emp) := by
  refine en Tryz.func9 r fun σ F=>J_emp<|sr<|lx r (opx_box (l := [.int .i64 p.id, .bool p.more, .int .i64 p.off, .int .i64 p.ttl, .int .i64 p.proto, .int .u8 p.s0, .int .u8 p.s1, .int .u8 p.s2, .int .u8 p.s3, .int .u8 p.d0, .int .u8 p.d1, .int .u8 p.d2, .int .u8 p.d3, .string p.data]) r r) fun b2 _=>eb r<|nk<|J_scope_straight<|sa r<|cy (Room_ok m h) r fun _=>L_emp<|ea r<|lv (opv_extract r r) r<|lv (opv_extract r r) r<|eb r<|nj<|jb ?_
  refine sa r<|lv ((opv_neq r r).bool_f (by decide)) r<|an r<|cf r<|sr ?_
  first | refine fz r ?_ | refine fy r ?_
  refine lv ((opv_load r (Rd.look r)).as (v' := .bool (decide (p.more = true))) (by simp)) r<|ea r ?_
  refine L_gf rfl rfl (fun h1 => ?_) (fun h1 => ?_) (fun _ h => by cases h; rfl)
  · first | refine fz r ?_ | refine fy r ?_
    refine L_gf_on h1 r r<|ld r r<|L_gf_on h1 r r ?_
    first | refine lv (opv_neq r r) r ?_ | refine lv (opv_neqS r r) r ?_ | refine lv (opv_neqNil r r) r ?_ | refine lv (opv_neqB r r) r ?_
    refine lv (opv_pick_f r h1 r) r<|an r ?_
    refine J_cond rfl (fun h2 => ?_) (fun h2 => by exfalso; rcases hf with hf | hf <;> contradiction)
    refine sb r<|nk<|jr<|kq<|kd<|K_str_ret ?_
    exact K_ret2 rfl rfl rfl () trivial (rfl) Ent.take
  · refine L_gf_off h1 rfl rfl ?_ (fun _ h => by cases h; rfl)
    refine L_gf_off h1 rfl rfl ?_ (fun _ h => by cases h; rfl)
    refine lv (opv_pick_t r h1 r) r<|an r<|ct r<|sb r<|nk<|jr<|kq<|kd<|K_str_ret ?_
    exact K_ret2 rfl rfl rfl () trivial (rfl) Ent.take
theorem Split_long (p : Pk) (m : Nat) (h : 64 ≤ m ∧ m ≤ 1518) (hf : p.more = false) (ho : p.off = 0) (hl : 65515 < p.data.size) : FSpec Tryz.prog 9 #[.agg [.int .i64 p.id, .bool p.more, .int .i64 p.off, .int .i64 p.ttl, .int .i64 p.proto, .int .u8 p.s0, .int .u8 p.s1, .int .u8 p.s2, .int .u8 p.s3, .int .u8 p.d0, .int .u8 p.d1, .int .u8 p.d2, .int .u8 p.d3, .string p.data].toArray, .int .i64 (m : Nat)] (emp) (fun _ : Unit => True) (fun _ => .tuple #[.slice none 0 0, .int .i64 11]) (fun _ => emp) := by
  refine en Tryz.func9 r fun σ F=>J_emp<|sr<|lx r (opx_box (l := [.int .i64 p.id, .bool p.more, .int .i64 p.off, .int .i64 p.ttl, .int .i64 p.proto, .int .u8 p.s0, .int .u8 p.s1, .int .u8 p.s2, .int .u8 p.s3, .int .u8 p.d0, .int .u8 p.d1, .int .u8 p.d2, .int .u8 p.d3, .string p.data]) r r) fun b2 _=>eb r<|nk<|J_scope_straight<|sa r<|cy (Room_ok m h) r fun _=>L_emp<|ea r<|lv (opv_extract r r) r<|lv (opv_extract r r) r<|eb r<|nj<|jb ?_
  refine sa r<|lv ((opv_neq r r).bool_f (by decide)) r<|an r<|cf r<|sr ?_
  first | refine fz r ?_ | refine fy r ?_
  refine lv ((opv_load r (Rd.look r)).as (v' := .bool false) (by rw [hf])) r<|ea r<|go r ?_
  first | refine fz r ?_ | refine fy r ?_
  refine go r<|ld r r<|go r<|lv ((opv_neq r r).bool_f (fun n => n ho)) r ?_
  first | refine ea r ?_ | refine lv (opv_pick r r r) r ?_
  refine an r<|cf r<|sr ?_
  first | refine fz r ?_ | refine fy r ?_
  refine ld r r ?_
  first | refine ll r ?_ | refine lv (opv_lenS r) r ?_
  refine lv ((opv_gtr r r).bool_t (by omega)) r<|an r<|ct r<|sb r<|nk<|jr<|kq<|kd<|K_str_ret ?_
  exact K_ret2 rfl rfl rfl () trivial (rfl) Ent.take
theorem Split_ok (p : Pk) (m : Nat) (h : 64 ≤ m ∧ m ≤ 1518) (hf : p.more = false) (ho : p.off = 0) (hl : p.data.size ≤ 65515) : FSpec Tryz.prog 9 #[.agg [.int .i64 p.id, .bool p.more, .int .i64 p.off, .int .i64 p.ttl, .int .i64 p.proto, .int .u8 p.s0, .int .u8 p.s1, .int .u8 p.s2, .int .u8 p.s3, .int .u8 p.d0, .int .u8 p.d1, .int .u8 p.d2, .int .u8 p.d3, .string p.data].toArray, .int .i64 (m : Nat)] (emp) (fun r : Option Addr × Nat => True) (fun r => .tuple #[.slice r.1 (splitL p (m - 39) (roomN m) 0).length r.2, .int .i64 0]) (fun r => Own 39 14 (.slice r.1 (splitL p (m - 39) (roomN m) 0).length r.2) (splitL p (m - 39) (roomN m) 0).length ((splitL p (m - 39) (roomN m) 0).flatMap encPk)) := by
  have hr := roomN_ge h.1
  have h0l : ([] : List Pk).length = 0 := rfl
  refine en Tryz.func9 r fun σ F=>J_emp ?_
  refine J_imp (sep (Own 39 14 (.slice none 0 0) ([] : List Pk).length (([] : List Pk).flatMap encPk)) (F)) (Ent.trans (Ent.of (emp_sep F).symm) ((Own.nil 39 14).frame F)) ?_
  refine sr<|lx r (opx_box (l := [.int .i64 p.id, .bool p.more, .int .i64 p.off, .int .i64 p.ttl, .int .i64 p.proto, .int .u8 p.s0, .int .u8 p.s1, .int .u8 p.s2, .int .u8 p.s3, .int .u8 p.d0, .int .u8 p.d1, .int .u8 p.d2, .int .u8 p.d3, .string p.data]) r r) fun b2 _=>eb r<|nk ?_
  refine J_scope (X := Nat × (Option Addr × Nat) × List Pk) 0 _ rfl (fun y => [(1, .int .i64 (m : Nat)), (2, .pointer (some (ad b2 0))), (6, .int .i64 (roomN m : Nat)), (8, .slice y.2.1.1 y.2.2.length y.2.1.2), (9, .int .i64 (y.1 : Nat))]) (fun y => (sep (cel b2 [.int .i64 p.id, .bool p.more, .int .i64 p.off, .int .i64 p.ttl, .int .i64 p.proto, .int .u8 p.s0, .int .u8 p.s1, .int .u8 p.s2, .int .u8 p.s3, .int .u8 p.d0, .int .u8 p.d1, .int .u8 p.d2, .int .u8 p.d3, .string p.data] 39) (sep (Own 39 14 (.slice y.2.1.1 y.2.2.length y.2.1.2) y.2.2.length (y.2.2.flatMap encPk)) (F)))) (fun y => y.1 ≤ p.data.size ∧ y.2.2.length ≤ y.1 ∧ y.2.2 ++ splitL p (m - 39) (roomN m) y.1 = splitL p (m - 39) (roomN m) 0) (fun y => p.data.size - y.1) ?_ (fun y hy => ?_)
  · refine sa r<|cy (Room_ok m h) r fun _=>L_emp<|ea r<|lv (opv_extract r r) r<|lv (opv_extract r r) r<|eb r<|nj<|jb<|sa r<|lv ((opv_neq r r).bool_f (by decide)) r<|an r<|cf r<|sr ?_
    first | refine fz r ?_ | refine fy r ?_
    refine lv ((opv_load r (Rd.look r)).as (v' := .bool false) (by rw [hf])) r<|ea r<|go r ?_
    first | refine fz r ?_ | refine fy r ?_
    refine go r<|ld r r<|go r<|lv ((opv_neq r r).bool_f (fun n => n ho)) r ?_
    first | refine ea r ?_ | refine lv (opv_pick r r r) r ?_
    refine an r<|cf r<|sr ?_
    first | refine fz r ?_ | refine fy r ?_
    refine ld r r ?_
    first | refine ll r ?_ | refine lv (opv_lenS r) r ?_
    refine lv ((opv_gtr r r).bool_f (by omega)) r<|an r<|cf r<|skb<|san r<|san r<|js<|J_label<|kt<|js<|js<|J_quiet Tryz.mixed (by kernel_rfl) ?_
    first | refine qz r ?_ | refine qy r ?_
    refine ql r r ?_
    first | refine qv (opv_lenL r) r ?_ | refine qv (opv_lenS r) r ?_
    refine qa r ?_
    first | refine qv (opv_sub64 r r (by omega)) r ?_ | refine qv (opv_sub r r) r ?_
    refine qa r<|Q_call (whole_spec m (by omega)) r r (fun _ _ => r) (fun _ _ => Ent.refl _) r<|qv (opv_gtr r r) r<|qn<|kt ?_
    refine J_cond rfl (fun h1 => ?_) (fun h1 => ?_)
    · refine sa r<|ls r<|ec r ?_
      first | refine lv ((opv_add64 r r (by omega)).as (v' := .int .i64 ((y.1 + roomN m : Nat) : Int)) (congrArg (Value.int .i64) (by omega))) r ?_ | refine lv ((opv_add64 r r (by omega)).as (v' := .int .i64 ((0 + roomN m : Nat) : Int)) (congrArg (Value.int .i64) (by omega))) r ?_
      refine cy (part_spec p (0) (0 + roomN m) (by omega) (by omega) (by omega)) r fun _=>L_emp<|lx r (opx_buildSlice1 (m := 14) r r (by omega) (by omega) r) fun b47 _=>lx r (opx_append (m := 14) (B := 64) r r (Src.lit) r (by omega) r (encPk_one _) (by unfold maxLen; omega) (by omega) r) fun y48 _=>an r<|sb r ?_
      first | refine lv ((opv_add64 r r (by omega)).as (v' := .int .i64 ((y.1 + roomN m : Nat) : Int)) (congrArg (Value.int .i64) (by omega))) r ?_ | refine lv ((opv_add64 r r (by omega)).as (v' := .int .i64 ((0 + roomN m : Nat) : Int)) (congrArg (Value.int .i64) (by omega))) r ?_
      refine an r<|J_goto<|K_then_goto ?_
      rw [show ([] : List Pk).length + 1 = (([] : List Pk) ++ [prt p 0 (0 + roomN m)]).length by simp, show ([] : List Pk).flatMap encPk ++ encPk (prt p 0 (0 + roomN m)) = (([] : List Pk) ++ [prt p 0 (0 + roomN m)]).flatMap encPk by simp]
      have hs := splitL_a (p := p) (w := m - 39) (r := roomN m) (a := 0) (by omega) (by omega)
      exact K_goto1 (0 + roomN m, y48, ([] : List Pk) ++ [prt p 0 (0 + roomN m)]) ⟨by show 0 + roomN m ≤ _; omega, by show 1 ≤ 0 + roomN m; omega, by rw [hs]; rfl⟩ ⟨rfl, rfl, rfl, rfl, rfl, trivial⟩ Ent.take
    · refine sk<|sa r<|ls r<|ea r ?_
      first | refine fz r ?_ | refine fy r ?_
      refine ld r r ?_
      first | refine ll r ?_ | refine lv (opv_lenS r) r ?_
      refine cy (part_spec p (0) p.data.size (by omega) (by omega) (by omega)) r fun _=>L_emp<|lx r (opx_buildSlice1 (m := 14) r r (by omega) (by omega) r) fun b59 _=>lx r (opx_append (m := 14) (B := 64) r r (Src.lit) r (by omega) r (encPk_one _) (by unfold maxLen; omega) (by omega) r) fun y60 _=>eb r<|nk<|jr<|K_jump_ret ?_
      rw [show ([] : List Pk).length + 1 = (([] : List Pk) ++ [prt p 0 (p.data.size)]).length by simp, show ([] : List Pk).flatMap encPk ++ encPk (prt p 0 (p.data.size)) = (([] : List Pk) ++ [prt p 0 (p.data.size)]).flatMap encPk by simp]
      have hb := splitL_b (p := p) (w := m - 39) (r := roomN m) (a := 0) (by omega)
      have hfin : ([] : List Pk) ++ [prt p 0 p.data.size] = splitL p (m - 39) (roomN m) 0 := by rw [hb]; rfl
      rw [hfin]
      exact K_ret2 rfl rfl rfl y60 trivial rfl Ent.take
  · obtain ⟨ha, hq, hy⟩ := hy
    refine js<|sk<|js<|js<|J_quiet Tryz.mixed (by kernel_rfl) ?_
    first | refine qz r ?_ | refine qy r ?_
    refine ql r r ?_
    first | refine qv (opv_lenL r) r ?_ | refine qv (opv_lenS r) r ?_
    refine qa r ?_
    first | refine qv (opv_sub64 r r (by omega)) r ?_ | refine qv (opv_sub r r) r ?_
    refine qa r<|Q_call (whole_spec m (by omega)) r r (fun _ _ => r) (fun _ _ => Ent.refl _) r<|qv (opv_gtr r r) r<|qn<|kt ?_
    refine J_cond rfl (fun h2 => ?_) (fun h2 => ?_)
    · refine sa r<|ls r<|ec r ?_
      first | refine lv ((opv_add64 r r (by omega)).as (v' := .int .i64 ((y.1 + roomN m : Nat) : Int)) (congrArg (Value.int .i64) (by omega))) r ?_ | refine lv ((opv_add64 r r (by omega)).as (v' := .int .i64 ((0 + roomN m : Nat) : Int)) (congrArg (Value.int .i64) (by omega))) r ?_
      refine cy (part_spec p (y.1) (y.1 + roomN m) (by omega) (by omega) (by omega)) r fun _=>L_emp<|lx r (opx_buildSlice1 (m := 14) r r (by omega) (by omega) r) fun b47 _=>lx r (opx_append (m := 14) (B := 64) r r (Src.lit) r (by omega) r (encPk_one _) (by unfold maxLen; omega) (by omega) r) fun y48 _=>an r<|sb r ?_
      first | refine lv ((opv_add64 r r (by omega)).as (v' := .int .i64 ((y.1 + roomN m : Nat) : Int)) (congrArg (Value.int .i64) (by omega))) r ?_ | refine lv ((opv_add64 r r (by omega)).as (v' := .int .i64 ((0 + roomN m : Nat) : Int)) (congrArg (Value.int .i64) (by omega))) r ?_
      refine an r<|J_goto<|K_then_goto ?_
      rw [show y.2.2.length + 1 = (y.2.2 ++ [prt p y.1 (y.1 + roomN m)]).length by simp, show y.2.2.flatMap encPk ++ encPk (prt p y.1 (y.1 + roomN m)) = (y.2.2 ++ [prt p y.1 (y.1 + roomN m)]).flatMap encPk by simp]
      have hs := splitL_a (p := p) (w := m - 39) (r := roomN m) (a := y.1) (by omega) (by omega)
      exact K_goto2 (y.1 + roomN m, y48, y.2.2 ++ [prt p y.1 (y.1 + roomN m)]) ⟨by show y.1 + roomN m ≤ _; omega, by show (y.2.2 ++ [_]).length ≤ y.1 + roomN m; rw [List.length_append]; simp only [List.length_cons, List.length_nil]; omega, by show (y.2.2 ++ [prt p y.1 (y.1 + roomN m)]) ++ splitL p (m - 39) (roomN m) (y.1 + roomN m) = _; rw [← hy, hs, List.append_assoc]; rfl⟩ (by show _ - (y.1 + roomN m) < _; omega) ⟨rfl, rfl, rfl, rfl, rfl, trivial⟩ Ent.take
    · refine sk<|sa r<|ls r<|ea r ?_
      first | refine fz r ?_ | refine fy r ?_
      refine ld r r ?_
      first | refine ll r ?_ | refine lv (opv_lenS r) r ?_
      refine cy (part_spec p (y.1) p.data.size (by omega) (by omega) (by omega)) r fun _=>L_emp<|lx r (opx_buildSlice1 (m := 14) r r (by omega) (by omega) r) fun b59 _=>lx r (opx_append (m := 14) (B := 64) r r (Src.lit) r (by omega) r (encPk_one _) (by unfold maxLen; omega) (by omega) r) fun y60 _=>eb r<|nk<|jr<|K_jump_ret ?_
      rw [show y.2.2.length + 1 = (y.2.2 ++ [prt p y.1 (p.data.size)]).length by simp, show y.2.2.flatMap encPk ++ encPk (prt p y.1 (p.data.size)) = (y.2.2 ++ [prt p y.1 (p.data.size)]).flatMap encPk by simp]
      have hb := splitL_b (p := p) (w := m - 39) (r := roomN m) (a := y.1) (by omega)
      have hfin : y.2.2 ++ [prt p y.1 p.data.size] = splitL p (m - 39) (roomN m) 0 := by rw [← hy, hb]
      rw [hfin]
      exact K_ret2 rfl rfl rfl y60 trivial rfl Ent.take
end Go.Proofs.YtpkcniedaabpoaaGreat
namespace Go.Proofs.YtpkcniedaabpoaaGreat
open Go.SLA
set_option maxRecDepth 100000
attribute [local irreducible] J L K QL Rg FSpec OpV OpX Rd Back
def okA (p : Pk) : Prop := (∀ v ∈ [p.s0, p.s1, p.s2, p.s3], 0 ≤ v ∧ v < 256) ∧ (∀ v ∈ [p.d0, p.d1, p.d2, p.d3], 0 ≤ v ∧ v < 256)
theorem okPk.a {p : Pk} (h : okPk p) : okA p := by
  obtain ⟨_, _, _, _, h0, h1, h2, h3, g0, g1, g2, g3, _⟩ := h
  constructor
  · intro v hv
    simp only [List.mem_cons, List.not_mem_nil, or_false] at hv
    rcases hv with rfl | rfl | rfl | rfl <;> exact wf8 (by assumption)
  · intro v hv
    simp only [List.mem_cons, List.not_mem_nil, or_false] at hv
    rcases hv with rfl | rfl | rfl | rfl <;> exact wf8 (by assumption)
theorem splitL_ind {p : Pk} {w r : Nat} {M : Nat → List Pk → Prop} (h1 : ∀ a, ¬ a + w < p.data.size → M a [prt p a p.data.size]) (h2 : ∀ a l, a + w < p.data.size → M (a + r) l → M a (prt p a (a + r) :: l)) (hr : 0 < r) : ∀ a, M a (splitL p w r a) := by
  intro a
  generalize hn : p.data.size - a = n
  induction n using Nat.strongRecOn generalizing a with
  | _ n ih =>
    by_cases h : a + w < p.data.size
    · rw [splitL_a h hr]
      exact h2 a _ h (ih _ (by omega) (a + r) rfl)
    · rw [splitL_b h]
      exact h1 a h
theorem splitL_ok {p : Pk} {w r : Nat} (hp : okA p) (hr : 0 < r) (a : Nat) : ∀ x ∈ splitL p w r a, okA x :=
  splitL_ind (M := fun _ l => ∀ x ∈ l, okA x) (fun a _ x hx => by rw [List.mem_singleton.1 hx]; exact hp) (fun a l _ h x hx => by
    rcases List.mem_cons.1 hx with rfl | hx
    · exact hp
    · exact h x hx) hr a
theorem splitL_len {p : Pk} {w r : Nat} (hr : 0 < r) (hw : r ≤ w) (a : Nat) (ha : a ≤ p.data.size) : (splitL p w r a).length + a ≤ p.data.size + 1 :=
  splitL_ind (p := p) (w := w) (r := r) (M := fun a l => a ≤ p.data.size → l.length + a ≤ p.data.size + 1) (fun a _ h => by simp only [List.length_cons, List.length_nil]; omega) (fun a l h ih h2 => by have := ih (by omega); simp only [List.length_cons]; omega) hr a ha
def partsC (p : Pk) (m : Int) : List Pk := if codeS p m = 0 then splitL p (m.toNat - 39) (roomN m.toNat) 0 else []
theorem partsC_ok {p : Pk} {m : Int} (hp : okA p) : (∀ x ∈ partsC p m, okA x) ∧ (partsC p m).length ≤ 70000 := by
  unfold partsC
  split
  · rename_i h
    obtain ⟨h1, _, _, h4⟩ := codeS_ok h
    unfold sizeB at h1
    have hr := roomN_ge (m := m.toNat) (by omega)
    have := splitL_len (p := p) (w := m.toNat - 39) (r := roomN m.toNat) (by omega) (by omega) 0 (by omega)
    exact ⟨splitL_ok hp (by omega) 0, by omega⟩
  · exact ⟨fun x hx => (by cases hx), Nat.zero_le _⟩
theorem Split_all (p : Pk) (m : Int) : FSpec Tryz.prog 9 #[.agg [.int .i64 p.id, .bool p.more, .int .i64 p.off, .int .i64 p.ttl, .int .i64 p.proto, .int .u8 p.s0, .int .u8 p.s1, .int .u8 p.s2, .int .u8 p.s3, .int .u8 p.d0, .int .u8 p.d1, .int .u8 p.d2, .int .u8 p.d3, .string p.data].toArray, .int .i64 m] emp (fun _ : Option Addr × Nat => True) (fun r => .tuple #[.slice r.1 (partsC p m).length r.2, .int .i64 (codeS p m)]) (fun r => Own 39 14 (.slice r.1 (partsC p m).length r.2) (partsC p m).length ((partsC p m).flatMap encPk)) := by
  have nil : ∀ c : Int, c ≠ 0 → codeS p m = c → FSpec Tryz.prog 9 #[.agg [.int .i64 p.id, .bool p.more, .int .i64 p.off, .int .i64 p.ttl, .int .i64 p.proto, .int .u8 p.s0, .int .u8 p.s1, .int .u8 p.s2, .int .u8 p.s3, .int .u8 p.d0, .int .u8 p.d1, .int .u8 p.d2, .int .u8 p.d3, .string p.data].toArray, .int .i64 m] emp (fun _ : Unit => True) (fun _ => .tuple #[.slice none 0 0, .int .i64 c]) (fun _ => emp) → FSpec Tryz.prog 9 #[.agg [.int .i64 p.id, .bool p.more, .int .i64 p.off, .int .i64 p.ttl, .int .i64 p.proto, .int .u8 p.s0, .int .u8 p.s1, .int .u8 p.s2, .int .u8 p.s3, .int .u8 p.d0, .int .u8 p.d1, .int .u8 p.d2, .int .u8 p.d3, .string p.data].toArray, .int .i64 m] emp (fun _ : Option Addr × Nat => True) (fun r => .tuple #[.slice r.1 (partsC p m).length r.2, .int .i64 (codeS p m)]) (fun r => Own 39 14 (.slice r.1 (partsC p m).length r.2) (partsC p m).length ((partsC p m).flatMap encPk)) := fun c hc e h => by
    have : partsC p m = [] := by unfold partsC; rw [if_neg (by rw [e]; exact hc)]
    rw [this, e]
    exact h.conseq (Ent.refl _) fun _ _ => ⟨(none, 0), trivial, rfl, Own.nil _ 14⟩
  by_cases h : sizeB m
  · obtain ⟨k, rfl⟩ : ∃ k : Nat, m = k := ⟨m.toNat, by unfold sizeB at h; omega⟩
    have h' : 64 ≤ k ∧ k ≤ 1518 := by unfold sizeB at h; omega
    by_cases hf : p.more = true ∨ p.off ≠ 0
    · exact nil 15 (by decide) (by unfold codeS; rw [if_neg (fun n => n h), if_pos hf]) (Split_field p k h' hf)
    · have hm : p.more = false := by cases hm : p.more with
        | false => rfl
        | true => exact absurd (.inl hm) hf
      have ho : p.off = 0 := Classical.not_not.1 fun n => hf (.inr n)
      by_cases hl : 65515 < p.data.size
      · exact nil 11 (by decide) (by unfold codeS; rw [if_neg (fun n => n h), if_neg hf, if_pos hl]) (Split_long p k h' hm ho hl)
      · have e : codeS p k = 0 := by unfold codeS; rw [if_neg (fun n => n h), if_neg hf, if_neg hl]
        have e2 : partsC p k = splitL p (k - 39) (roomN k) 0 := by unfold partsC; rw [if_pos e]; rfl
        rw [e, e2]
        exact Split_ok p k h' hm ho (by omega)
  · exact nil 1 (by decide) (by unfold codeS; rw [if_pos h]) (Split_size p m h)
attribute [local irreducible] partsC codeS
def pkz : Pk := ⟨0, false, 0, 0, 0, 0, 0, 0, 0, 0, 0, 0, 0, ⟨#[]⟩⟩
end Go.Proofs.YtpkcniedaabpoaaGreat
namespace Go.Proofs.YtpkcniedaabpoaaGreat
open Go.SLA
set_option maxRecDepth 100000
attribute [local irreducible] J L K QL Rg FSpec OpV OpX Rd Back
def Pk.src (p : Pk) : List Int := [p.s0, p.s1, p.s2, p.s3]
def Pk.dst (p : Pk) : List Int := [p.d0, p.d1, p.d2, p.d3]
theorem okPk.src {p : Pk} (h : okPk p) : ∀ v ∈ p.src, 0 ≤ v ∧ v < 256 := by
  obtain ⟨_, _, _, _, h0, h1, h2, h3, _⟩ := h
  intro v hv
  simp only [Pk.src, List.mem_cons, List.not_mem_nil, or_false] at hv
  rcases hv with rfl | rfl | rfl | rfl <;> exact wf8 (by assumption)
theorem okPk.dst {p : Pk} (h : okPk p) : ∀ v ∈ p.dst, 0 ≤ v ∧ v < 256 := by
  obtain ⟨_, _, _, _, _, _, _, _, h0, h1, h2, h3, _⟩ := h
  intro v hv
  simp only [Pk.dst, List.mem_cons, List.not_mem_nil, or_false] at hv
  rcases hv with rfl | rfl | rfl | rfl <;> exact wf8 (by assumption)
theorem U8_n (p : Nat) (s : ByteArray) (k : Nat) (hk : k ≤ 255) (hs : s.size ≤ 1099511627776) : FSpec Tryz.prog 31 #[.pointer (some (ad p 0)), .int .i64 k] (WrP p s false) (fun _ : Unit => True) (fun _ => .tuple #[]) (fun _ => WrP p (s ++ be k 1) false) := by
  have := U8_spec p s false k (by omega) hs
  rwa [putS_fit rfl (by show k / 256 = 0; omega) (by decide)] at this
end Go.Proofs.YtpkcniedaabpoaaGreat
namespace Go.Proofs.YtpkcniedaabpoaaGreat
open Go.SLA
set_option maxRecDepth 100000
attribute [local irreducible] J L K QL Rg FSpec OpV OpX Rd Back
/-- 1 of true. -/
def flagN (b : Bool) : Int := if b = true then 1 else 0
/-- May a packet's numbers be? -/
def fieldsB (p : Pk) : Prop := (0 ≤ p.id ∧ p.id ≤ 65535) ∧ (0 ≤ p.off ∧ p.off ≤ 8191) ∧ (0 ≤ p.ttl ∧ p.ttl ≤ 255) ∧ (0 ≤ p.proto ∧ p.proto ≤ 255)
def partN (p : Pk) : Nat := (if p.more = true then 8192 else 0) + p.off.toNat
/-- What stands ahead of a packet's sum, and behind it. -/
def hA (p : Pk) (n : Nat) : ByteArray := be 69 1 ++ be 0 1 ++ be n 2 ++ be p.id.toNat 2 ++ be (partN p) 2 ++ be p.ttl.toNat 1 ++ be p.proto.toNat 1
def hB (p : Pk) : ByteArray := bytesL p.src ++ bytesL p.dst
def h20 (p : Pk) (n sum : Nat) : ByteArray := hA p n ++ be sum 2 ++ hB p
theorem hB_eq (p : Pk) : bytesL [p.s0, p.s1, p.s2, p.s3] ++ bytesL [p.d0, p.d1, p.d2, p.d3] = hB p := rfl
/-- A packet as bytes. -/
def pkt (p : Pk) : ByteArray := h20 p (20 + p.data.size) (ones (h20 p (20 + p.data.size) 0)) ++ p.data
theorem hA_size (p : Pk) (n : Nat) : (hA p n).size = 10 := by unfold hA; simp only [ByteArray.size_append, be_size]
theorem hB_size (p : Pk) : (hB p).size = 8 := by unfold hB; rw [ByteArray.size_append, bytesL_size, bytesL_size]; rfl
theorem h20_size (p : Pk) (n m : Nat) : (h20 p n m).size = 20 := by unfold h20; rw [ByteArray.size_append, ByteArray.size_append, hA_size, hB_size, be_size]
theorem pkt_size (p : Pk) : (pkt p).size = 20 + p.data.size := by unfold pkt; rw [ByteArray.size_append, h20_size]
theorem h20_a (p : Pk) (n m : Nat) : (h20 p n m).extract 0 10 = hA p n := by
  unfold h20
  rw [ByteArray.append_assoc]
  exact ByteArray.extract_append_eq_left (by rw [hA_size])
theorem h20_b (p : Pk) (n m : Nat) : (h20 p n m).extract 12 (h20 p n m).size = hB p := by
  have e : (hA p n ++ be m 2).size = 12 := by rw [ByteArray.size_append, hA_size, be_size]
  rw [h20_size]
  unfold h20
  exact ByteArray.extract_append_eq_right (by rw [e]) (by rw [e, hB_size])
theorem okPk.i {p : Pk} (h : okPk p) : (-9223372036854775808 ≤ p.id ∧ p.id ≤ 9223372036854775807) ∧ (-9223372036854775808 ≤ p.off ∧ p.off ≤ 9223372036854775807) ∧ (-9223372036854775808 ≤ p.ttl ∧ p.ttl ≤ 9223372036854775807) ∧ (-9223372036854775808 ≤ p.proto ∧ p.proto ≤ 9223372036854775807) :=
  ⟨wf64 h.1, wf64 h.2.1, wf64 h.2.2.1, wf64 h.2.2.2.1⟩
theorem fitB_iff {m : Int} {w : Nat} (hw : w ≤ 64) : fitB m w ↔ 0 ≤ m ∧ m < 2 ^ w := by
  unfold fitB
  rw [Int.toNat_natCast, Nat.min_eq_left hw]
  have hp : (0 : Int) < 2 ^ w := Int.pow_pos (by decide)
  constructor
  · rintro ⟨h0, h1⟩
    refine ⟨h0, ?_⟩
    rcases Int.lt_or_le m (2 ^ w) with h | h
    · exact h
    · have h3 : 1 ≤ m / 2 ^ w := by rw [Int.le_ediv_iff_mul_le hp]; omega
      omega
  · rintro ⟨h0, h1⟩
    exact ⟨h0, Int.ediv_eq_zero_of_lt h0 h1⟩
theorem not3 (f o : Int) : ¬ (sumW [2, 1, 13] = 0 ∨ ([2, 1, 13] : List Int).length ≠ ([0, f, o] : List Int).length) := by
  rintro (h | h)
  · exact absurd h (by decide)
  · exact h rfl
theorem bits3_fit (s : ByteArray) (p : Pk) (h : 0 ≤ p.off ∧ p.off ≤ 8191) : bitsS s false [2, 1, 13] [0, flagN p.more, p.off] = (s ++ be (partN p) 2, false) := by
  have hf : flagN p.more = 0 ∨ flagN p.more = 1 := by unfold flagN; split <;> simp
  have h0 : fitB 0 (Int.toNat 2) := (fitB_iff (by decide)).2 ⟨by decide, by decide⟩
  have h1 : fitB (flagN p.more) (Int.toNat 1) := (fitB_iff (by decide)).2 ⟨by omega, by show flagN p.more < 2 ^ 1; have : (2 : Int) ^ 1 = 2 := (by decide); omega⟩
  have h2 : fitB p.off (Int.toNat 13) := (fitB_iff (by decide)).2 ⟨by omega, by show p.off < 2 ^ 13; have : (2 : Int) ^ 13 = 8192 := (by decide); omega⟩
  have hp : pack 0 [2, 1, 13] [0, flagN p.more, p.off] = some (partN p) := by
    rw [pack, if_pos h0, pack, if_pos h1, pack, if_pos h2]
    show some (((0 * 2 ^ Int.toNat 2 + Int.toNat 0) * 2 ^ Int.toNat 1 + (flagN p.more).toNat) * 2 ^ Int.toNat 13 + p.off.toNat) = _
    refine congrArg some ?_
    unfold partN flagN
    have e1 : 2 ^ Int.toNat 2 = 4 := rfl
    have e2 : 2 ^ Int.toNat 1 = 2 := rfl
    have e3 : 2 ^ Int.toNat 13 = 8192 := rfl
    rw [e1, e2, e3]
    split
    · have e4 : Int.toNat 1 = 1 := rfl
      rw [e4]; rfl
    · have e4 : Int.toNat 0 = 0 := rfl
      rw [e4]
  unfold bitsS
  rw [if_neg (by decide), if_neg (not3 _ _), hp]
  show putS s false (partN p : Nat) 2 = _
  have hpn : partN p ≤ 16383 := by unfold partN; split <;> omega
  exact putS_fit rfl (by show partN p / 65536 = 0; omega) (by decide)
theorem bitsS_true (s : ByteArray) (ws ls : List Int) : bitsS s true ws ls = (s, true) := by unfold bitsS; rw [if_pos rfl]
theorem Bits3_any (p b1 b2 : Nat) (s : ByteArray) (bad : Bool) (pk : Pk) (hp : okPk pk) (hs : s.size ≤ 1099511627776) : FSpec Tryz.prog 32 #[.pointer (some (ad p 0)), .slice (some (ad b1 0)) 3 3, .slice (some (ad b2 0)) 3 3] (sep (WrP p s bad) ((sep (cel b2 [.int .i64 0, .int .i64 (flagN pk.more), .int .i64 pk.off] 3) (cel b1 [.int .i64 2, .int .i64 1, .int .i64 13] 3)))) (fun _ : Unit => True) (fun _ => .tuple #[]) (fun _ => (sep (WrP p (bitsS s bad [2, 1, 13] [0, flagN pk.more, pk.off]).1 (bitsS s bad [2, 1, 13] [0, flagN pk.more, pk.off]).2) ((sep (cel b2 [.int .i64 0, .int .i64 (flagN pk.more), .int .i64 pk.off] 3) (cel b1 [.int .i64 2, .int .i64 1, .int .i64 13] 3))))) := by
  have hf : flagN pk.more = 0 ∨ flagN pk.more = 1 := by unfold flagN; split <;> simp
  cases bad with
  | true =>
    rw [bitsS_true]
    exact (Bits_bad p s _ _).frame _
  | false =>
    exact Bits_go p s (sep (cel b2 [.int .i64 0, .int .i64 (flagN pk.more), .int .i64 pk.off] 3) (cel b1 [.int .i64 2, .int .i64 1, .int .i64 13] 3)) (some (ad b1 0)) (some (ad b2 0)) 3 3 [2, 1, 13] [0, flagN pk.more, pk.off] (RdS.lit (b := b1) (cells := [.int .i64 2, .int .i64 1, .int .i64 13]) rfl encZ_len) (RdS.lit (b := b2) (cells := [.int .i64 0, .int .i64 (flagN pk.more), .int .i64 pk.off]) rfl encZ_len) ⟨by decide, by show 3 ≤ 1000000; decide⟩ (by decide)
      (fun v hv => by simp only [List.mem_cons, List.not_mem_nil, or_false] at hv; have := hp.i.2.1; rcases hv with rfl | rfl | rfl <;> omega) (by decide) rfl hs
attribute [local irreducible] be ones h20 bitsS flagN partN
theorem parts_spec  : FSpec Tryz.prog 33 #[] (emp) (fun b : Nat => True) (fun b => .slice (some (ad b 0)) 3 3) (fun b => cel b [.int .i64 2, .int .i64 1, .int .i64 13] 3) := by
  refine en Tryz.func33 r fun σ F=>J_emp<|san r<|sr<|lx r (opx_buildSliceL r r r (by decide) (by simp [Value.cells]) r) fun b _=>an r<|jr ?_
  exact K_ret1 rfl rfl b trivial rfl (Ent.refl _)
theorem flag_spec (x : Bool) : FSpec Tryz.prog 34 #[.bool x] (emp) (fun _ : Unit => True) (fun _ => .int .i64 (flagN x)) (fun _ => emp) := by
  refine en Tryz.func34 r fun σ F=>san r<|js<|san r ?_
  refine J_cond_bool rfl (fun h1 => ?_) (fun h1 => ?_)
  · refine san r<|jr<|kd ?_
    exact K_ret1 rfl rfl () trivial (by unfold flagN; rw [if_pos (by assumption)]) (Ent.refl _)
  · refine sk<|san r<|jr ?_
    exact K_ret1 rfl rfl () trivial (by unfold flagN; rw [if_neg (by simp_all)]) (Ent.refl _)
theorem Bits3_fit (p b1 b2 : Nat) (s : ByteArray) (pk : Pk) (hp : okPk pk) (h : 0 ≤ pk.off ∧ pk.off ≤ 8191) (hs : s.size ≤ 1099511627776) : FSpec Tryz.prog 32 #[.pointer (some (ad p 0)), .slice (some (ad b1 0)) 3 3, .slice (some (ad b2 0)) 3 3] (sep (WrP p s false) ((sep (cel b2 [.int .i64 0, .int .i64 (flagN pk.more), .int .i64 pk.off] 3) (cel b1 [.int .i64 2, .int .i64 1, .int .i64 13] 3)))) (fun _ : Unit => True) (fun _ => .tuple #[]) (fun _ => (sep (WrP p (s ++ be (partN pk) 2) false) ((sep (cel b2 [.int .i64 0, .int .i64 (flagN pk.more), .int .i64 pk.off] 3) (cel b1 [.int .i64 2, .int .i64 1, .int .i64 13] 3))))) := by
  have := Bits3_any p b1 b2 s false pk hp hs
  rwa [bits3_fit s pk h] at this
theorem U8_z (p : Nat) (s : ByteArray) (m : Int) (hk : 0 ≤ m ∧ m ≤ 255) (hs : s.size ≤ 1099511627776) : FSpec Tryz.prog 31 #[.pointer (some (ad p 0)), .int .i64 m] (WrP p s false) (fun _ : Unit => True) (fun _ => .tuple #[]) (fun _ => WrP p (s ++ be m.toNat 1) false) := by
  obtain ⟨k, rfl⟩ : ∃ k : Nat, m = k := ⟨m.toNat, by omega⟩
  exact U8_n p s k (by omega) hs
theorem h20_eq (p : Pk) (n m : Nat) : be 69 1 ++ be 0 1 ++ be n 2 ++ be p.id.toNat 2 ++ be (partN p) 2 ++ be p.ttl.toNat 1 ++ be p.proto.toNat 1 ++ be m 2 ++ hB p = h20 p n m := by unfold h20 hA; rfl
theorem h20_zero (p : Pk) (n : Nat) : be 69 1 ++ be 0 1 ++ be n 2 ++ be p.id.toNat 2 ++ be (partN p) 2 ++ be p.ttl.toNat 1 ++ be p.proto.toNat 1 ++ be 0 2 ++ hB p = h20 p n 0 := h20_eq p n 0
theorem pkt_eq (p : Pk) {n : Nat} (hn : n = 20 + p.data.size) : hA p n ++ be (ones (h20 p n 0)) 2 ++ (hB p ++ p.data) = pkt p := by
  subst hn
  unfold pkt
  rw [← ByteArray.append_assoc]
  unfold h20
  rfl
attribute [local irreducible] pkt hA hB
set_option maxHeartbeats 1000000 in
theorem Ip4Encode_ok (p : Pk) (hp : okPk p) (h : fieldsB p) (hd : p.data.size ≤ 65515) : FSpec Tryz.prog 11 #[.agg [.int .i64 p.id, .bool p.more, .int .i64 p.off, .int .i64 p.ttl, .int .i64 p.proto, .int .u8 p.s0, .int .u8 p.s1, .int .u8 p.s2, .int .u8 p.s3, .int .u8 p.d0, .int .u8 p.d1, .int .u8 p.d2, .int .u8 p.d3, .string p.data].toArray] (emp) (fun _ : Unit => True) (fun _ => .tuple #[.string (pkt p), .int .i64 0]) (fun _ => emp) := by
  obtain ⟨nn, hnn1⟩ : ∃ nn : Nat, nn = min (20 + p.data.size) 65535 := ⟨_, rfl⟩
  have hnn : nn ≤ 65535 := by omega
  have hi := hp.i
  obtain ⟨hf1, hf2, hf3, hf4⟩ := h
  have hzh := h20_size p nn 0
  have hzb := hB_size p
  have hza := hA_size p nn
  refine en Tryz.func11 r fun σ F=>J_emp<|sr<|lx r (opx_box (l := [.int .i64 p.id, .bool p.more, .int .i64 p.off, .int .i64 p.ttl, .int .i64 p.proto, .int .u8 p.s0, .int .u8 p.s1, .int .u8 p.s2, .int .u8 p.s3, .int .u8 p.d0, .int .u8 p.d1, .int .u8 p.d2, .int .u8 p.d3, .string p.data]) r r) fun b1 _=>eb r<|nr<|lv (opv_build r) r<|bx r fun w=>an r<|js ?_
  refine J_imp _ WrP_new ?_
  refine jg<|ea r<|cy (U8_n w (bytesL []) 69 (by decide) (by decide)) r fun _=>?_
  rw [nil_app]
  refine nr<|ea r<|cy (U8_n w (be 69 1) 0 (by decide) (by simp only [ByteArray.size_append, be_size, bytesL_size]; first | decide | omega)) r fun _=>nr<|ea r ?_
  first | refine fz r ?_ | refine fy r ?_
  refine ld r r ?_
  first | refine ll r ?_ | refine lv (opv_lenS r) r ?_
  first | refine lv (opv_add64 r r (by omega)) r ?_ | refine lv (opv_addS r r (by omega)) r ?_ | refine lv (opv_add r r) r ?_
  refine lv ((opv_min r r).as (v' := .int .i64 (nn : Nat)) (congrArg (Value.int .i64) (by split <;> omega))) r<|cy (U16_ok w (be 69 1 ++ be 0 1) nn hnn (by simp only [ByteArray.size_append, be_size, bytesL_size]; first | decide | omega)) r fun _=>nr<|ea r ?_
  first | refine fz r ?_ | refine fy r ?_
  refine ld r r<|cy (U16_n w (be 69 1 ++ be 0 1 ++ be nn 2) p.id hf1 (by simp only [ByteArray.size_append, be_size, bytesL_size]; first | decide | omega)) r fun _=>nj<|J_steps (cel b1 [.int .i64 p.id, .bool p.more, .int .i64 p.off, .int .i64 p.ttl, .int .i64 p.proto, .int .u8 p.s0, .int .u8 p.s1, .int .u8 p.s2, .int .u8 p.s3, .int .u8 p.d0, .int .u8 p.d1, .int .u8 p.d2, .int .u8 p.d3, .string p.data] 39) (cel b1 [.int .i64 p.id, .bool p.more, .int .i64 p.off, .int .i64 p.ttl, .int .i64 p.proto, .int .u8 p.s0, .int .u8 p.s1, .int .u8 p.s2, .int .u8 p.s3, .int .u8 p.d0, .int .u8 p.d1, .int .u8 p.d2, .int .u8 p.d3, .string p.data] 39) [] Tryz.mixed<|pe 0 r r ?_
  first | refine ps 2 r (opv_fieldAddr0 r) ?_ | refine ps 2 r (opv_fieldAddr r) ?_
  refine R_ts 3 r (by kernel_rfl) (opv_load r (Rd.look r)) r ?_
  first | refine ps 5 r (opv_fieldAddr0 r) ?_ | refine ps 5 r (opv_fieldAddr r) ?_
  refine R_ts 6 r (by kernel_rfl) (opv_load r (Rd.look r)) r<|pn 1 r (opx_call0 (parts_spec) r r r) fun bp _=>pn 4 r (opx_call0 (flag_spec p.more) r r r) fun _ _=>Rg_emp<|pn 7 r (opx_buildSliceL r r r (by omega) (by simp [Value.cells]) r) fun b32 _=>pn 8 r (opx_call0 (Bits3_fit w bp b32 (be 69 1 ++ be 0 1 ++ be nn 2 ++ be p.id.toNat 2) p hp hf2 (by simp only [ByteArray.size_append, be_size, bytesL_size]; first | decide | omega)) r r r) fun _ _=>dn<|kt<|sa r ?_
  first | refine fz r ?_ | refine fy r ?_
  refine ld r r<|cy (U8_z w (be 69 1 ++ be 0 1 ++ be nn 2 ++ be p.id.toNat 2 ++ be (partN p) 2) p.ttl hf3 (by simp only [ByteArray.size_append, be_size, bytesL_size]; first | decide | omega)) r fun _=>nr<|ea r ?_
  first | refine fz r ?_ | refine fy r ?_
  refine ld r r<|cy (U8_z w (be 69 1 ++ be 0 1 ++ be nn 2 ++ be p.id.toNat 2 ++ be (partN p) 2 ++ be p.ttl.toNat 1) p.proto hf4 (by simp only [ByteArray.size_append, be_size, bytesL_size]; first | decide | omega)) r fun _=>nr<|ea r<|cy (U16_ok w (be 69 1 ++ be 0 1 ++ be nn 2 ++ be p.id.toNat 2 ++ be (partN p) 2 ++ be p.ttl.toNat 1 ++ be p.proto.toNat 1) 0 (by decide) (by simp only [ByteArray.size_append, be_size, bytesL_size]; first | decide | omega)) r fun _=>nj<|J_steps (cel b1 [.int .i64 p.id, .bool p.more, .int .i64 p.off, .int .i64 p.ttl, .int .i64 p.proto, .int .u8 p.s0, .int .u8 p.s1, .int .u8 p.s2, .int .u8 p.s3, .int .u8 p.d0, .int .u8 p.d1, .int .u8 p.d2, .int .u8 p.d3, .string p.data] 39) (cel b1 [.int .i64 p.id, .bool p.more, .int .i64 p.off, .int .i64 p.ttl, .int .i64 p.proto, .int .u8 p.s0, .int .u8 p.s1, .int .u8 p.s2, .int .u8 p.s3, .int .u8 p.d0, .int .u8 p.d1, .int .u8 p.d2, .int .u8 p.d3, .string p.data] 39) [] Tryz.mixed<|pe 0 r r ?_
  first | refine ps 1 r (opv_fieldAddr0 r) ?_ | refine ps 1 r (opv_fieldAddr r) ?_
  refine ps 2 r (opv_sliceA r)<|ps 3 r (opv_b2sC [p.s0, p.s1, p.s2, p.s3] r r r hp.src) ?_
  first | refine ps 4 r (opv_fieldAddr0 r) ?_ | refine ps 4 r (opv_fieldAddr r) ?_
  refine ps 5 r (opv_sliceA r)<|ps 6 r (opv_b2sC [p.d0, p.d1, p.d2, p.d3] r r r hp.dst)<|ps 7 r ((opv_addS r r (by rw [bytesL_size, bytesL_size]; show 4 + 4 ≤ 9223372036854775807; decide)).as (v' := .string (hB p)) (congrArg Value.string (hB_eq p)))<|pn 8 r (opx_call0 (WText_ok w (be 69 1 ++ be 0 1 ++ be nn 2 ++ be p.id.toNat 2 ++ be (partN p) 2 ++ be p.ttl.toNat 1 ++ be p.proto.toNat 1 ++ be 0 2) (hB p) (by simp only [ByteArray.size_append, be_size, bytesL_size]; first | decide | omega) (by rw [hB_size]; decide)) r r r) fun _ _=>dn<|kt<|js ?_
  rw [h20_zero]
  refine jg<|ea r<|cy (Bytes_ok w (h20 p nn 0)) r fun _=>ea r<|lv (opv_extract r r) r<|lv (opv_extract r r) r<|eb r<|nj<|jb<|sa r<|lv ((opv_neq r r).bool_f (by decide)) r<|an r<|cf r<|sr ?_
  first | refine fz r ?_ | refine fy r ?_
  refine ld r r ?_
  first | refine ll r ?_ | refine lv (opv_lenS r) r ?_
  refine lv ((opv_gtr r r).bool_f (by omega)) r<|an r<|cf r<|skb<|sr<|lv (opv_build r) r<|bx r fun w2=>an r<|js ?_
  refine J_imp _ WrP_new ?_
  refine jg<|eb r<|lv ((opv_sliceShi r r (by omega)).as (v' := .string (hA p nn)) (congrArg Value.string (h20_a p nn 0))) r<|cy (WText_ok w2 (bytesL []) (hA p nn) (by decide) (by omega)) r fun _=>nj ?_
  rw [nil_app]
  refine jg<|eb r<|cy (Ones_spec (h20 p nn 0) (by omega)) r fun _=>L_emp<|cy (U16_ok w2 (hA p nn) (ones (h20 p nn 0)) (ones_le _) (by omega)) r fun _=>nj<|J_steps (cel b1 [.int .i64 p.id, .bool p.more, .int .i64 p.off, .int .i64 p.ttl, .int .i64 p.proto, .int .u8 p.s0, .int .u8 p.s1, .int .u8 p.s2, .int .u8 p.s3, .int .u8 p.d0, .int .u8 p.d1, .int .u8 p.d2, .int .u8 p.d3, .string p.data] 39) (cel b1 [.int .i64 p.id, .bool p.more, .int .i64 p.off, .int .i64 p.ttl, .int .i64 p.proto, .int .u8 p.s0, .int .u8 p.s1, .int .u8 p.s2, .int .u8 p.s3, .int .u8 p.d0, .int .u8 p.d1, .int .u8 p.d2, .int .u8 p.d3, .string p.data] 39) [] Tryz.mixed<|pe 0 r r<|pe 1 r r<|ps 2 r ((opv_sliceSlo r r (by omega)).as (v' := .string (hB p)) ((congrArg (fun k => Value.string ((h20 p nn 0).extract k (h20 p nn 0).size)) (show Int.toNat 12 = 12 from r)).trans (congrArg Value.string (h20_b p nn 0)))) ?_
  first | refine ps 3 r (opv_fieldAddr0 r) ?_ | refine ps 3 r (opv_fieldAddr r) ?_
  refine R_ts 4 r (by kernel_rfl) (opv_load r (Rd.look r)) r<|ps 5 r (opv_addS r r (by omega))<|pn 6 r (opx_call0 (WText_ok w2 (hA p nn ++ be (ones (h20 p nn 0)) 2) (hB p ++ p.data) (by rw [ByteArray.size_append, be_size]; omega) (by rw [ByteArray.size_append]; omega)) r r r) fun _ _=>dn<|kt<|js ?_
  rw [pkt_eq p (n := nn) (by omega)]
  refine jg<|ea r<|cy (Bytes_ok w2 (pkt p)) r fun _=>lv (opv_extract r r) r<|lv (opv_extract r r) r<|eb r<|nk<|jr ?_
  exact K_ret2 rfl rfl rfl () trivial rfl Ent.take
end Go.Proofs.YtpkcniedaabpoaaGreat
