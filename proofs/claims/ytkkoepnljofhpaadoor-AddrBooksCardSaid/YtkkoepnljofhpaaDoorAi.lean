/- Contracts of strings.Join at texts of two bytes, and of MAC.Print, each proved by a walk over its code; they are used by the texts that import this one. -/
import Derived.Test.YtkkoepnljofhpaaDoorAh
import Derived.Test.YtkkoepnljofhpaaDoorH
namespace Go.Proofs.YtkkoepnljofhpaaDoor
open Go.SLA
set_option maxRecDepth 100000
set_option linter.unusedVariables false
set_option linter.unusedSimpArgs false
attribute [local irreducible] J L K QL Rg FSpec OpV OpX Rd Back

section
variable {prog : Program} {σ : World} {n : Nat} {E : Env} {P : HProp}
theorem opv_indexArr {d : Option Tmp} {ty : TypeId} {pos : String} {aft : Array Edge} {g : Option (Nat × Bool)} {x y : Operand} {t len e : Nat} {k : IntKind} {a : Int} {cs : Array Value} {v : Value} [Arr prog t len e 1] [One prog e] (hx : ev E x = some (.agg cs)) (hy : ev E y = some (.int k a)) (h : 0 ≤ a ∧ a < len) (hv : cs[a.toNat]? = some v) :
    OpV prog σ n E P ⟨d, .index t x y, ty, pos, aft, g⟩ v := by
  unfold OpV
  exact fun _ w ha _ => by
    obtain ⟨h1, i, h2, h3⟩ := Arr.spec (prog := prog) t len e 1
    obtain ⟨dd, i', g1, g2, g3, g4⟩ := One.spec (prog := prog) e
    simp only [execOp, ha.ev hx, ha.ev hy, Instr.index, Sem.run_bind, asIntOf, Sem.run_pure, run_und' h1, Result.andThen_ok, Sem.run_ite]
    rw [if_pos h]
    simp only [run_sizeOf' h2, Result.andThen_ok, h3, part, Sem.run_bind, run_isAgg' g1, g2, Sem.run_ite, Bool.false_eq_true, if_false, Nat.mul_one, hv, Sem.run_pure]
end
/-- Texts as cells. -/
def encS (s : ByteArray) : List Value := [.string s]
theorem encS_len (s : ByteArray) : (encS s).length = 1 := rfl
theorem Rd.nextS {P R : HProp} {b i : Nat} {pre post : List Value} {x s : ByteArray} {r : List ByteArray} {t : TypeId} [h : Look P b (pre ++ (x :: r).flatMap encS ++ post) t R] (hx : r[i]? = some s) : Rd P b (pre.length + 1 + i * 1) (.string s) := by
  have := Rd.elem (P := P) (R := R) (b := b) (pre := pre) (post := post) encS_len (q := x :: r) (i := i + 1) (x := s) (t := t) (by simpa using hx) (show (encS s)[0]? = some (.string s) from rfl)
  rwa [show pre.length + (i + 1) * 1 + 0 = pre.length + 1 + i * 1 by omega] at this
/-- Texts, one behind the other, ':' between. -/
def colon : ByteArray := ⟨#[58]⟩
def joinB (a : ByteArray) (l : List ByteArray) : ByteArray := l.foldl (fun a s => (a ++ colon) ++ s) a
theorem joinB_snoc (a : ByteArray) (l : List ByteArray) (s : ByteArray) : joinB a (l ++ [s]) = (joinB a l ++ colon) ++ s := by unfold joinB; rw [List.foldl_append]; rfl
theorem joinB_size : ∀ (l : List ByteArray) (a : ByteArray), (∀ s ∈ l, s.size = 2) → (joinB a l).size = a.size + 3 * l.length
  | [], a, _ => by simp [joinB]
  | s :: l, a, h => by
    have := joinB_size l ((a ++ colon) ++ s) (fun t ht => h t (List.mem_cons_of_mem _ ht))
    have h2 := h s List.mem_cons_self
    have e : joinB a (s :: l) = joinB ((a ++ colon) ++ s) l := rfl
    rw [e, this, ByteArray.size_append, ByteArray.size_append, h2, show colon.size = 1 from rfl, List.length_cons]
    omega
theorem take_snoc {α : Type} {l : List α} {i : Nat} {x : α} (h : l[i]? = some x) : l.take (i + 1) = l.take i ++ [x] := by
  rw [List.take_add_one, h]; rfl
theorem get_lt {α : Type} {l : List α} {i : Nat} (h : i < l.length) : ∃ x, l[i]? = some x ∧ x ∈ l := ⟨l[i], List.getElem?_eq_getElem h, List.getElem_mem h⟩

theorem Join_spec (b cap : Nat) (pre post : List Value) (x : ByteArray) (r : List ByteArray) (hr : 1 ≤ r.length ∧ r.length ≤ 1000) (hx2 : x.size = 2) (hs : ∀ s ∈ r, s.size = 2) (hc : r.length + 1 ≤ cap) : FSpec Tryd.prog 50 #[.slice (some (ad b pre.length)) (x :: r).length cap, .string colon] (cel b (pre ++ (x :: r).flatMap encS ++ post) 9) (fun _ : Unit => True) (fun _ => .string (joinB x r)) (fun _ => cel b (pre ++ (x :: r).flatMap encS ++ post) 9) := by
  have hln : (x :: r).length = r.length + 1 := rfl
  have hlc : colon.size = 1 := rfl
  have hd : (2 : Int) ≤ 9223372036854775807 / (((x :: r).length : Nat) - 1 : Int) := by rw [Int.le_ediv_iff_mul_le (by omega)]; omega
  refine FSpec.enter' Tryd.func50 rfl Tryd.ntmps50 rfl fun σ F => ?_
  refine J_seq ?_
  refine J_region ?_
  refine L_v (opv_assign rfl) rfl ?_
  refine L_nil ?_
  refine K_then ?_
  refine J_seq ?_
  refine J_seq ?_
  refine J_region ?_
  refine L_v (opv_move rfl) rfl ?_
  first
    | refine L_v (opv_lenL rfl) rfl ?_
    | refine L_v (opv_lenS rfl) rfl ?_
  refine L_nil ?_
  refine K_then ?_
  refine J_block ?_
  refine J_seq ?_
  refine J_region ?_
  refine L_v ((opv_eql rfl rfl).bool_f (by omega)) rfl ?_
  refine L_v (opv_assign rfl) rfl ?_
  refine L_nil ?_
  refine K_then ?_
  refine J_cond_false rfl ?_
  refine J_seq ?_
  refine J_region ?_
  refine L_v ((opv_eql rfl rfl).bool_f (by omega)) rfl ?_
  refine L_v (opv_assign rfl) rfl ?_
  refine L_nil ?_
  refine K_then ?_
  refine J_cond_false rfl ?_
  refine J_skip ?_
  refine K_block ?_
  refine K_then ?_
  refine J_seq ?_
  refine J_region ?_
  refine L_v (opv_assign rfl) rfl ?_
  refine L_nil ?_
  refine K_then ?_
  refine J_seq ?_
  refine J_seq ?_
  refine J_region ?_
  refine L_v (opv_move rfl) rfl ?_
  first
    | refine L_v (opv_lenL rfl) rfl ?_
    | refine L_v (opv_lenS rfl) rfl ?_
  refine L_v ((opv_gtr rfl rfl).bool_t (by omega)) rfl ?_
  refine L_nil ?_
  refine K_then ?_
  refine J_cond_true rfl ?_
  refine J_seq ?_
  refine J_seq ?_
  refine J_region ?_
  refine L_v (opv_move rfl) rfl ?_
  first
    | refine L_v (opv_lenL rfl) rfl ?_
    | refine L_v (opv_lenS rfl) rfl ?_
  refine L_v (opv_move rfl) rfl ?_
  first
    | refine L_v (opv_lenL rfl) rfl ?_
    | refine L_v (opv_lenS rfl) rfl ?_
  first
    | refine L_v (opv_sub64 rfl rfl (by omega)) rfl ?_
    | refine L_v (opv_sub rfl rfl) rfl ?_
  refine L_v ((opv_quoP rfl rfl (by omega))) rfl ?_
  refine L_v ((opv_geq rfl rfl).bool_f (by omega)) rfl ?_
  refine L_nil ?_
  refine K_then ?_
  refine J_cond_false rfl ?_
  refine J_skip ?_
  refine K_then ?_
  refine J_region ?_
  refine L_v (opv_move rfl) rfl ?_
  refine L_v (opv_move rfl) rfl ?_
  first
    | refine L_v (opv_lenL rfl) rfl ?_
    | refine L_v (opv_lenS rfl) rfl ?_
  refine L_v (opv_move rfl) rfl ?_
  first
    | refine L_v (opv_lenL rfl) rfl ?_
    | refine L_v (opv_lenS rfl) rfl ?_
  first
    | refine L_v (opv_sub64 rfl rfl (by omega)) rfl ?_
    | refine L_v (opv_sub rfl rfl) rfl ?_
  refine L_v ((opv_mul64 rfl rfl (by rw [hlc]; omega)).as (v' := .int .i64 (r.length : Nat)) (congrArg (Value.int .i64) (by rw [hlc]; omega))) rfl ?_
  refine L_v ((opv_add64 rfl rfl (by omega)).as (v' := .int .i64 ((r.length + 2 * 0 : Nat) : Int)) (congrArg (Value.int .i64) (by omega))) rfl ?_
  refine L_v (opv_assign rfl) rfl ?_
  refine L_nil ?_
  refine K_then ?_
  refine J_seq ?_
  refine J_seq ?_
  refine J_region ?_
  refine L_v (opv_move rfl) rfl ?_
  first
    | refine L_v (opv_lenL rfl) rfl ?_
    | refine L_v (opv_lenS rfl) rfl ?_
  refine L_v (opv_move rfl) rfl ?_
  refine L_nil ?_
  refine K_then ?_
  refine J_block ?_
  refine J_loop (X := Nat) (fun i => [(0, .slice (some (ad b pre.length)) (x :: r).length cap), (1, .string colon), (5, .int .i64 ((r.length + 2 * i : Nat) : Int)), (39, .slice (some (ad b pre.length)) (x :: r).length cap), (40, .int .i64 ((x :: r).length : Nat)), (41, .int .i64 i)]) (fun i => (sep (cel b (pre ++ (x :: r).flatMap encS ++ post) 9) (F))) (fun i => i ≤ (x :: r).length) (fun i => (x :: r).length - i) (0) (Nat.zero_le _) ⟨rfl, rfl, rfl, rfl, rfl, rfl, trivial⟩ Ent.take (fun i hi => ?_)
  refine J_seq ?_
  refine J_region ?_
  refine L_v (opv_lss rfl rfl) rfl ?_
  refine L_nil ?_
  refine K_then ?_
  refine J_seq ?_
  refine J_cond rfl (fun h1 => ?_) (fun h1 => ?_)
  · obtain ⟨s, hx, hm⟩ := get_lt (l := (x :: r)) (i := i) (by omega)
    have hs2 : s.size = 2 := by rcases List.mem_cons.1 hm with rfl | h; exact hx2; exact hs _ h
    refine J_skip ?_
    refine K_then ?_
    refine J_seq ?_
    refine J_block ?_
    refine J_seq ?_
    refine J_region ?_
    first
      | refine L_v (opv_indexAddr rfl rfl (by omega)) rfl ?_
      | refine L_v (opv_indexAddrA rfl rfl (by omega)) rfl ?_
    refine L_v (opv_load rfl (Rd.elem encS_len (q := x :: r) hx (show (encS s)[0]? = some (.string s) from rfl))) rfl ?_
    refine L_v (opv_assign rfl) rfl ?_
    refine L_nil ?_
    refine K_then ?_
    refine J_seq ?_
    refine J_seq ?_
    refine J_region ?_
    refine L_v (opv_move rfl) rfl ?_
    first
      | refine L_v (opv_lenL rfl) rfl ?_
      | refine L_v (opv_lenS rfl) rfl ?_
    refine L_v (opv_move rfl) rfl ?_
    first
      | refine L_v (opv_sub64 rfl rfl (by omega)) rfl ?_
      | refine L_v (opv_sub rfl rfl) rfl ?_
    refine L_v ((opv_gtr rfl rfl).bool_f (by omega)) rfl ?_
    refine L_nil ?_
    refine K_then ?_
    refine J_cond_false rfl ?_
    refine J_skip ?_
    refine K_then ?_
    refine J_region ?_
    refine L_v (opv_move rfl) rfl ?_
    refine L_v (opv_move rfl) rfl ?_
    first
      | refine L_v (opv_lenL rfl) rfl ?_
      | refine L_v (opv_lenS rfl) rfl ?_
    refine L_v ((opv_add64 rfl rfl (by omega)).as (v' := .int .i64 ((r.length + 2 * (i + 1) : Nat) : Int)) (congrArg (Value.int .i64) (by omega))) rfl ?_
    refine L_v (opv_assign rfl) rfl ?_
    refine L_nil ?_
    refine K_block ?_
    refine K_then ?_
    refine J_region ?_
    first
      | refine L_v (opv_add64 rfl rfl (by omega)) rfl ?_
      | refine L_v (opv_addS rfl rfl (by omega)) rfl ?_
      | refine L_v (opv_add rfl rfl) rfl ?_
    refine L_v (opv_move rfl) rfl ?_
    refine L_nil ?_
    exact K_loop ((i + 1)) (by omega) (by omega) ⟨rfl, rfl, rfl, rfl, rfl, rfl, trivial⟩ Ent.take
  · refine J_exit ?_
    refine K_then_exit ?_
    refine K_then_exit ?_
    refine K_block_here ?_
    refine K_then ?_
    refine J_seq ?_
    refine J_region ?_
    refine L_x rfl (opx_alloc rfl) (fun b8 _ => ?_)
    refine L_nil ?_
    refine K_then ?_
    refine J_seq ?_
    refine J_region ?_
    refine L_v (opv_move rfl) rfl ?_
    refine L_x rfl (opx_call0 (Grow_spec b8 (r.length + 2 * i) (by omega)) rfl rfl rfl) (fun u8 _ => ?_)
    refine L_nil ?_
    refine K_then ?_
    refine J_seq ?_
    refine J_region ?_
    refine L_v (opv_move rfl) rfl ?_
    first
      | refine L_v (opv_indexAddr rfl rfl (by omega)) rfl ?_
      | refine L_v (opv_indexAddrA rfl rfl (by omega)) rfl ?_
    refine L_v (opv_load rfl (Rd.elem encS_len (q := x :: r) (i := 0) (x := x) rfl (show (encS x)[0]? = some (.string x) from rfl))) rfl ?_
    refine L_x rfl (opx_call0 (BWrite b8 (some (ad b8 0)) u8 ByteArray.empty x (.inr rfl) (by rw [hx2]; decide)) rfl rfl rfl) (fun u9 _ => ?_)
    rw [ByteArray.empty_append]
    refine L_nil ?_
    refine K_then ?_
    refine J_seq ?_
    refine J_seq ?_
    refine J_region ?_
    refine L_v (opv_move rfl) rfl ?_
    refine L_v ((opv_sliceLlo rfl rfl (by omega)).as (v' := .slice (some (ad b (pre.length + 1))) r.length (cap - 1)) (by rw [cutV_at, if_neg (by show ¬ cap = 1; omega)]; rfl)) rfl ?_
    first
      | refine L_v (opv_lenL rfl) rfl ?_
      | refine L_v (opv_lenS rfl) rfl ?_
    refine L_v (opv_move rfl) rfl ?_
    refine L_nil ?_
    refine K_then ?_
    refine J_block ?_
    refine J_loop (X := Nat × Option Addr × Nat) (fun z => [(1, .string colon), (8, .pointer (some (ad b8 0))), (63, .slice (some (ad b (pre.length + 1))) r.length (cap - 1)), (64, .int .i64 (r.length : Nat)), (65, .int .i64 z.1)]) (fun z => (sep ((sep (cel b8 [.pointer (some (ad b8 0)), .slice z.2.1 ((joinB x (r.take z.1))).size z.2.2] 111) (OwnZ 5 z.2 (joinB x (r.take z.1))))) (sep (cel b (pre ++ (x :: r).flatMap encS ++ post) 9) (F)))) (fun z => z.1 ≤ r.length) (fun z => r.length - z.1) ((0, u9)) (Nat.zero_le _) ⟨rfl, rfl, rfl, rfl, rfl, trivial⟩ (by show Ent _ (sep ((sep (cel b8 [.pointer (some (ad b8 0)), .slice u9.1 (x).size u9.2] 111) (OwnZ 5 u9 x))) (sep (cel b (pre ++ (x :: r).flatMap encS ++ post) 9) (F))); exact Ent.take) (fun z hz => ?_)
    refine J_seq ?_
    refine J_region ?_
    refine L_v (opv_lss rfl rfl) rfl ?_
    refine L_nil ?_
    refine K_then ?_
    refine J_seq ?_
    refine J_cond rfl (fun h2 => ?_) (fun h2 => ?_)
    · obtain ⟨s, hx, hm⟩ := get_lt (l := r) (i := z.1) (by omega)
      have hs2 := hs s hm
      have hj := joinB_size (r.take z.1) x (fun t ht => hs t (List.mem_of_mem_take ht))
      rw [List.length_take] at hj
      refine J_skip ?_
      refine K_then ?_
      refine J_seq ?_
      refine J_block ?_
      refine J_seq ?_
      refine J_region ?_
      first
        | refine L_v (opv_indexAddr rfl rfl (by omega)) rfl ?_
        | refine L_v (opv_indexAddrA rfl rfl (by omega)) rfl ?_
      refine L_v (opv_load rfl (Rd.nextS hx)) rfl ?_
      refine L_v (opv_assign rfl) rfl ?_
      refine L_nil ?_
      refine K_then ?_
      refine J_seq ?_
      refine J_region ?_
      refine L_v (opv_move rfl) rfl ?_
      refine L_x rfl (opx_call0 (BWrite b8 (some (ad b8 0)) z.2 ((joinB x (r.take z.1))) colon (.inr rfl) (by omega)) rfl rfl rfl) (fun u10 _ => ?_)
      refine L_nil ?_
      refine K_then ?_
      refine J_region ?_
      refine L_v (opv_move rfl) rfl ?_
      refine L_x rfl (opx_call0 (BWrite b8 (some (ad b8 0)) u10 ((joinB x (r.take z.1)) ++ colon) s (.inr rfl) (by rw [ByteArray.size_append]; omega)) rfl rfl rfl) (fun u11 _ => ?_)
      refine L_nil ?_
      refine K_block ?_
      refine K_then ?_
      refine J_region ?_
      first
        | refine L_v (opv_add64 rfl rfl (by omega)) rfl ?_
        | refine L_v (opv_addS rfl rfl (by omega)) rfl ?_
        | refine L_v (opv_add rfl rfl) rfl ?_
      refine L_v (opv_move rfl) rfl ?_
      refine L_nil ?_
      exact K_loop ((z.1 + 1, u11)) (by show z.1 + 1 ≤ _; omega) (by show _ - (z.1 + 1) < _; omega) ⟨rfl, rfl, rfl, rfl, rfl, trivial⟩ (by show Ent _ (sep ((sep (cel b8 [.pointer (some (ad b8 0)), .slice u11.1 ((joinB x (r.take (z.1 + 1)))).size u11.2] 111) (OwnZ 5 u11 (joinB x (r.take (z.1 + 1)))))) (sep (cel b (pre ++ (x :: r).flatMap encS ++ post) 9) (F))); rw [take_snoc hx, joinB_snoc]; exact Ent.take)
    · refine J_exit ?_
      refine K_then_exit ?_
      refine K_then_exit ?_
      refine K_block_here ?_
      refine K_then ?_
      refine J_seq ?_
      refine J_region ?_
      refine L_x rfl (opx_call0 (BString b8 (some (ad b8 0)) z.2 ((joinB x (r.take z.1)))) rfl rfl rfl) (fun _ _ => ?_)
      refine L_v (opv_assign rfl) rfl ?_
      refine L_nil ?_
      refine K_then ?_
      refine J_ret ?_
      exact K_ret1 rfl rfl () trivial ((by rw [show r.take z.1 = r from List.take_of_length_le (by omega)])) Ent.take


/-- A byte as two digits. -/
def pr2 (w : Nat) : ByteArray := bytesL [byt digS (w / 16)] ++ bytesL [byt digS (w % 16)]
theorem pr2_size (w : Nat) : (pr2 w).size = 2 := by unfold pr2; rw [ByteArray.size_append, bytesL_size, bytesL_size]; rfl
def enc8 (w : Nat) : Value := .int .u8 (w : Nat)
theorem idx8 {ms : List Nat} {i w : Nat} (h : ms[i]? = some w) : (ms.map enc8).toArray[i]? = some (.int .u8 (w : Nat)) := by simp [h, enc8]
theorem q16 {w : Nat} (h : w < 256) : Value.int .u8 (IntKind.u8.wrap (Int.tdiv (w : Int) 16)) = .int .u8 ((w / 16 : Nat) : Int) := by
  rw [Int.tdiv_eq_ediv_of_nonneg (by omega), IntKind.wrap_u8]
  exact congrArg _ (by omega)
/-- The text of an address. -/
def printB (ms : List Nat) : ByteArray := match ms.map pr2 with
  | [] => ByteArray.empty
  | x :: r => joinB x r
/-- strings.Join at what a call owns. -/
theorem Join_own (x : ByteArray) (r : List ByteArray) (k : Nat) (hk : k = (x :: r).length) (v : Value) (hr : 1 ≤ r.length ∧ r.length ≤ 1000) (hx2 : x.size = 2) (hs : ∀ s ∈ r, s.size = 2) : FSpec Tryd.prog 50 #[v, .string colon] (Own 9 1 v k ((x :: r).flatMap encS)) (fun _ : Unit => True) (fun _ => .string (joinB x r)) (fun _ => emp) := by
  subst hk
  refine FSpec.eq (sep (Own 9 1 v (x :: r).length ((x :: r).flatMap encS)) (emp)) (sep_emp _).symm (FSpec.own (fun _ h _ => by simp at h) fun b cap pre post hv h1 h2 h3 h4 => ?_)
  subst hv
  exact (Join_spec b cap pre post x r hr hx2 hs (by simpa using h1)).conseq Ent.left fun _ _ => ⟨(), trivial, rfl, Ent.trans (Ent.of (emp_sep _).symm) Ent.left⟩

theorem Print_spec (W : World) (hW : W.cell? (ad 7 15) = some (.int .u8 4)) (ms : List Nat) (hl : ms.length = 6) (hb : ∀ w ∈ ms, w < 256) : FSpec Tryd.prog 37 #[.agg (ms.map enc8).toArray] (old W) (fun _ : Unit => True) (fun _ => .string (printB ms)) (fun _ => old W) := by
  refine FSpec.enter' Tryd.func37 rfl Tryd.ntmps37 rfl fun σ F => ?_
  refine J_imp (sep (Own 9 1 (.slice none 0 0) 0 (([]).flatMap encS)) (sep (old W) (F))) (Ent.trans (Ent.of (emp_sep _).symm) ((Own.nil 9 1).frame _)) ?_
  refine J_seq ?_
  refine J_region ?_
  refine L_x rfl (opx_box rfl rfl) (fun b1 _ => ?_)
  refine L_v (opv_assign rfl) rfl ?_
  refine L_nil ?_
  refine K_then ?_
  refine J_seq ?_
  refine J_region ?_
  refine L_v (opv_assign rfl) rfl ?_
  refine L_nil ?_
  refine K_then ?_
  refine J_seq ?_
  refine J_seq ?_
  refine J_region ?_
  refine L_v (opv_loadN (vs := ms.map enc8) rfl (by rw [List.length_map, hl]) (fun j u hj => Rd.look (by rw [Nat.zero_add]; exact hj))) rfl ?_
  refine L_v (opv_move rfl) rfl ?_
  refine L_nil ?_
  refine K_then ?_
  refine J_block ?_
  refine J_loop (X := Nat × Option Addr × Nat) (fun z => [(3, .slice z.2.1 z.1 z.2.2), (6, .agg (ms.map enc8).toArray), (7, .int .i64 z.1)]) (fun z => (sep (Own 9 1 (.slice z.2.1 z.1 z.2.2) z.1 (((ms.take z.1).map pr2).flatMap encS)) (sep (old W) (F)))) (fun z => z.1 ≤ 6) (fun z => 6 - z.1) ((0, none, 0)) (by decide) ⟨rfl, rfl, rfl, trivial⟩ (by show Ent _ (sep (Own 9 1 (.slice none 0 0) 0 (([]).flatMap encS)) (sep (old W) (F))); exact Ent.take) (fun z hz => ?_)
  refine J_seq ?_
  refine J_region ?_
  refine L_v (opv_lss rfl rfl) rfl ?_
  refine L_nil ?_
  refine K_then ?_
  refine J_seq ?_
  refine J_cond rfl (fun h1 => ?_) (fun h1 => ?_)
  · obtain ⟨w, hx, hm⟩ := get_lt (l := ms) (i := z.1) (by omega)
    have hw := hb w hm
    refine J_skip ?_
    refine K_then ?_
    refine J_seq ?_
    refine J_block ?_
    refine J_seq ?_
    refine J_region ?_
    refine L_v ((opv_indexArr (v := .int .u8 (w : Nat)) rfl rfl (by omega) (idx8 hx))) rfl ?_
    refine L_v (opv_assign rfl) rfl ?_
    refine L_nil ?_
    refine K_then ?_
    refine J_region ?_
    refine L_v (opv_move rfl) rfl ?_
    refine L_v (opv_move rfl) rfl ?_
    refine L_v ((opv_quo rfl rfl (by decide)).as (q16 hw)) rfl ?_
    refine L_v (opv_convW rfl (Go.IntWalk.i64_in _ (by omega))) rfl ?_
    refine L_x rfl (opx_call0 (Format_spec W hW (w / 16) (by omega)) rfl rfl rfl) (fun _ _ => ?_)
    refine L_v (opv_move rfl) rfl ?_
    refine L_v ((opv_remP rfl rfl (by omega)).as (v' := .int .u8 ((w % 16 : Nat) : Int)) rfl) rfl ?_
    refine L_v (opv_convW rfl (Go.IntWalk.i64_in _ (by omega))) rfl ?_
    refine L_x rfl (opx_call0 (Format_spec W hW (w % 16) (by omega)) rfl rfl rfl) (fun _ _ => ?_)
    refine L_v ((opv_addS rfl rfl (by rw [bytesL_size, bytesL_size]; show 1 + 1 ≤ _; decide)).as (v' := .string (pr2 w)) rfl) rfl ?_
    refine L_x rfl (opx_buildSlice1 (m := 1) rfl rfl (by omega) (by omega) rfl) (fun b20 _ => ?_)
    refine L_x rfl (opx_append (m := 1) (B := 16) rfl rfl (Src.lit) rfl (by omega) rfl (by simp [Value.oneCell']) (by unfold maxLen; omega) (by omega) rfl) (fun y21 _ => ?_)
    refine L_v (opv_assign rfl) rfl ?_
    refine L_nil ?_
    refine K_block ?_
    refine K_then ?_
    refine J_region ?_
    first
      | refine L_v (opv_add64 rfl rfl (by omega)) rfl ?_
      | refine L_v (opv_addS rfl rfl (by omega)) rfl ?_
      | refine L_v (opv_add rfl rfl) rfl ?_
    refine L_v (opv_move rfl) rfl ?_
    refine L_nil ?_
    exact K_loop ((z.1 + 1, y21)) (by show z.1 + 1 ≤ _; omega) (by show _ - (z.1 + 1) < _; omega) ⟨rfl, rfl, rfl, trivial⟩ (by show Ent _ (sep (Own 9 1 (.slice y21.1 (z.1 + 1) y21.2) (z.1 + 1) (((ms.take (z.1 + 1)).map pr2).flatMap encS)) (sep (old W) (F))); rw [take_snoc hx, List.map_append, List.flatMap_append, show List.flatMap encS (List.map pr2 [w]) = [.string (pr2 w)] from rfl]; exact Ent.take)
  · have hz6 : z.1 = 6 := by omega
    obtain ⟨z1, z2, z3⟩ := z
    obtain rfl : z1 = 6 := hz6
    match ms, hl with
    | [m0, m1, m2, m3, m4, m5], _ =>
    refine J_eq (sep (Own 9 1 (.slice z2 6 z3) 6 (([pr2 m0, pr2 m1, pr2 m2, pr2 m3, pr2 m4, pr2 m5]).flatMap encS)) (sep (old W) (F))) rfl ?_
    refine J_exit ?_
    refine K_then_exit ?_
    refine K_then_exit ?_
    refine K_block_here ?_
    refine K_then ?_
    refine J_seq ?_
    refine J_region ?_
    refine L_v (opv_move rfl) rfl ?_
    refine L_x rfl (opx_call0 (Join_own (pr2 m0) [pr2 m1, pr2 m2, pr2 m3, pr2 m4, pr2 m5] 6 rfl (.slice z2 6 z3) ⟨by simp, by simp⟩ (pr2_size _) (by simp [pr2_size])) rfl rfl rfl) (fun _ _ => ?_)
    refine L_emp ?_
    refine L_v (opv_assign rfl) rfl ?_
    refine L_nil ?_
    refine K_then ?_
    refine J_ret ?_
    exact K_ret1 rfl rfl () trivial (rfl) Ent.take

end Go.Proofs.YtkkoepnljofhpaaDoor
