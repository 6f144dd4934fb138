/- The law ReasmOnly of the package pitotlaw09 holds for every input: a packet that comes out has the bytes of the last parts of its key, joined. No condition. -/
import Derived.Test.YtjpbpfihacfndaaRk
import Derived.Test.YtjpbpfihacfndaaH
namespace Go.Proofs.Ytjpbpfihacfndaa
open Go.SLA
set_option maxRecDepth 100000
set_option linter.unusedVariables false
set_option linter.unusedSimpArgs false
attribute [local irreducible] J L K QL Rg FSpec OpV OpX Rd Back

section
variable {prog : Program} {σ : World} {n : Nat} {E : Env} {P : HProp}
theorem Q_gf_offU {ops : Array Oper} {rest : List Oper} {Qa : Act → Prop} {d : Nat} {op : Op} {ty : TypeId} {pos : String} {aft : Array Edge} {j t : Nat} {p : Prop} [Decidable p] (h : p) (hj : (ops[j]?).bind (·.dst) = some t) (hb : Env.get E t = some (.bool (decide p))) (hd : Nat.blt d n = true)
    (k : QL prog σ n ops rest Qa ((d, undef) :: E) P) : QL prog σ n ops (⟨some d, op, ty, pos, aft, some (j, false)⟩ :: rest) Qa E P := by
  unfold QL at k ⊢
  intro a ha
  unfold wpQuiet
  have : Region.wanted ⟨some d, op, ty, pos, aft, some (j, false)⟩ (yielded ops a.tmps) = false := by
    simp only [Region.wanted, yields ha hj hb]
    simp [h]
  rw [this]
  simp only [Bool.false_eq_true, if_false]
  exact k _ (ha.put (Nat.le_of_ble_eq_true hd) undef)
end
theorem Src.ownA {P R : HProp} {e m len c : Nat} {A : Option Addr} {l : List Value} [h : Take P (Own e m (.slice A len c) len l) R] (hA : (A = none ∧ c = 0 ∧ len = 0 ∧ l = []) ∨ ∃ b o, A = some (ad b o)) : SLA.Src P (.slice A len c) len l := by
  rcases hA with ⟨rfl, rfl, rfl, rfl⟩ | ⟨b, o, rfl⟩
  · exact .inl ⟨rfl, rfl, rfl⟩
  · exact .inr ⟨b, o, c, rfl, fun j u hj => Rd.of_take (S := Own e m (.slice (some (ad b o)) len c) len l) (Rd.own hj)⟩
theorem RdS.rdf {S : HProp} {α : Type} {en : α → List Value} {m : Nat} {xs : List α} {b o : Nat} (h : RdS S en m (some (ad b o)) xs) {i : Nat} {x : α} (hx : xs[i]? = some x) (d : Nat) {vs : List Value} (hv : ∀ j u, vs[j]? = some u → (en x)[d + j]? = some u) : ∀ j u, vs[j]? = some u → Rd S b (o + i * m + d + j) u := fun j u hj => by
  have := h.rd b o rfl i x (d + j) u hx (hv j u hj)
  rwa [← Nat.add_assoc] at this
def s4 (x : Pk) : List Int := [x.s0, x.s1, x.s2, x.s3]
def d4 (x : Pk) : List Int := [x.d0, x.d1, x.d2, x.d3]
theorem eqs_iff {x q : Pk} : [Value.int .u8 x.s0, .int .u8 x.s1, .int .u8 x.s2, .int .u8 x.s3] ≠ [Value.int .u8 q.s0, .int .u8 q.s1, .int .u8 q.s2, .int .u8 q.s3] ↔ ¬ s4 x = s4 q := by simp [s4]
theorem eqd_iff {x q : Pk} : [Value.int .u8 x.d0, .int .u8 x.d1, .int .u8 x.d2, .int .u8 x.d3] ≠ [Value.int .u8 q.d0, .int .u8 q.d1, .int .u8 q.d2, .int .u8 q.d3] ↔ ¬ d4 x = d4 q := by simp [d4]
theorem ky_all {x q : Pk} (h1 : ¬ ¬ s4 x = s4 q) (h2 : ¬ ¬ d4 x = d4 q) (h3 : ¬ x.proto ≠ q.proto) (h4 : ¬ x.id ≠ q.id) : kyOf x = kyOf q := by
  have h1 := Classical.not_not.1 h1
  have h2 := Classical.not_not.1 h2
  simp only [s4, d4, List.cons.injEq, and_true] at h1 h2
  obtain ⟨a0, a1, a2, a3⟩ := h1
  obtain ⟨b0, b1, b2, b3⟩ := h2
  unfold kyOf
  rw [a0, a1, a2, a3, b0, b1, b2, b3, Classical.not_not.1 h3, Classical.not_not.1 h4]
theorem no_s {x q : Pk} {i n : Nat} (h : ¬ s4 x = s4 q) : ¬ useB (kyOf q) i n x := fun g => h (by have := g.1; simp only [kyOf, Ky.mk.injEq] at this; simp [s4, this])
theorem no_d {x q : Pk} {i n : Nat} (h : ¬ d4 x = d4 q) : ¬ useB (kyOf q) i n x := fun g => h (by have := g.1; simp only [kyOf, Ky.mk.injEq] at this; simp [d4, this])
theorem no_p {x q : Pk} {i n : Nat} (h : x.proto ≠ q.proto) : ¬ useB (kyOf q) i n x := fun g => h (by have := g.1; simp only [kyOf, Ky.mk.injEq] at this; exact this.2.2.2.2.2.2.2.2.1)
theorem no_i {x q : Pk} {i n : Nat} (h : x.id ≠ q.id) : ¬ useB (kyOf q) i n x := fun g => h (by have := g.1; simp only [kyOf, Ky.mk.injEq] at this; exact this.2.2.2.2.2.2.2.2.2)
theorem encPk_z (x : Pk) (l : List Pk) : [.int .i64 x.id, .bool x.more, .int .i64 x.off, .int .i64 0, .int .i64 x.proto, .int .u8 x.s0, .int .u8 x.s1, .int .u8 x.s2, .int .u8 x.s3, .int .u8 x.d0, .int .u8 x.d1, .int .u8 x.d2, .int .u8 x.d3, .string x.data] ++ l.flatMap encPk = (x.z :: l).flatMap encPk := rfl
theorem flatPk_one (l : List Pk) : ∀ u ∈ l.flatMap encPk, u.oneCell' = true := fun u hu => by obtain ⟨x, _, hx⟩ := List.mem_flatMap.1 hu; exact encPk_one x u hx

theorem RO_bad (W : World) (A : Option Addr) (c : Nat) (xs : List Pk) (hR : RdS (old W) encPk 14 A xs) (hx : xs.length ≤ 9223372036854775807) (hb : 60 < xs.length) : FSpec Try.prog 13 #[.slice A xs.length c] (old W) (fun _ : Unit => True) (fun _ => .bool true) (fun _ => old W) := by
  refine FSpec.enter' Try.func13 rfl Try.ntmps13 rfl fun σ F => ?_
  refine J_seq ?_
  refine J_region ?_
  refine L_v (opv_assign rfl) rfl ?_
  refine L_nil ?_
  refine K_then ?_
  refine J_seq ?_
  refine J_region ?_
  refine L_x rfl (opx_call0 (New_okE 64 100 (by decide) (by decide)) rfl rfl rfl) (fun tp _ => ?_)
  refine L_v (opv_move rfl) rfl ?_
  refine L_v (opv_extract rfl rfl) rfl ?_
  refine L_v (opv_extract rfl rfl) rfl ?_
  refine L_v (opv_assign rfl) rfl ?_
  refine L_v (opv_assign rfl) rfl ?_
  refine L_nil ?_
  refine K_then ?_
  refine J_seq ?_
  refine J_seq ?_
  refine J_region ?_
  refine L_v (opv_move rfl) rfl ?_
  refine L_v ((opv_neq rfl rfl).bool_f (by decide)) rfl ?_
  refine L_v (opv_move rfl) rfl ?_
  refine L_gon rfl rfl rfl ?_
  refine L_v (opv_move rfl) rfl ?_
  refine L_gon rfl rfl rfl ?_
  refine L_v (opv_eqlNil rfl rfl) rfl ?_
  first
    | refine L_v (opv_pick_tt rfl rfl) rfl ?_
    | refine L_v (opv_pick_ff rfl rfl) rfl ?_
    | refine L_v (opv_pick rfl rfl rfl) rfl ?_
  refine L_v (opv_move rfl) rfl ?_
  refine L_gon rfl rfl rfl ?_
  refine L_v (opv_move rfl) rfl ?_
  refine L_gon rfl rfl rfl ?_
  first
    | refine L_v (opv_lenL rfl) rfl ?_
    | refine L_v (opv_lenS rfl) rfl ?_
  refine L_gon rfl rfl rfl ?_
  refine L_v ((opv_gtr rfl rfl).bool_t (by omega)) rfl ?_
  first
    | refine L_v (opv_pick_tt rfl rfl) rfl ?_
    | refine L_v (opv_pick_ff rfl rfl) rfl ?_
    | refine L_v (opv_pick rfl rfl rfl) rfl ?_
  refine L_nil ?_
  refine K_then ?_
  refine J_cond_true rfl ?_
  refine J_seq ?_
  refine J_region ?_
  refine L_v (opv_move rfl) rfl ?_
  refine L_v ((opv_eql rfl rfl).bool_t rfl) rfl ?_
  refine L_v (opv_move rfl) rfl ?_
  refine L_gon rfl rfl rfl ?_
  refine L_v (opv_move rfl) rfl ?_
  refine L_gon rfl rfl rfl ?_
  refine L_v (opv_neqNil rfl rfl) rfl ?_
  first
    | refine L_v (opv_pick_tt rfl rfl) rfl ?_
    | refine L_v (opv_pick_ff rfl rfl) rfl ?_
    | refine L_v (opv_pick rfl rfl rfl) rfl ?_
  refine L_v (opv_move rfl) rfl ?_
  refine L_gon rfl rfl rfl ?_
  refine L_x rfl (opx_call0 (rawake_spec) rfl rfl rfl) (fun _ _ => ?_)
  refine L_emp ?_
  first
    | refine L_v (opv_pick_tt rfl rfl) rfl ?_
    | refine L_v (opv_pick_ff rfl rfl) rfl ?_
    | refine L_v (opv_pick rfl rfl rfl) rfl ?_
  refine L_v (opv_assign rfl) rfl ?_
  refine L_nil ?_
  refine K_then ?_
  refine J_ret ?_
  refine K_then_ret ?_
  exact K_ret1 rfl rfl () trivial (rfl) Ent.take

set_option maxHeartbeats 2000000 in
theorem RO_ok (W : World) (A : Option Addr) (c : Nat) (xs : List Pk) (hR : RdS (old W) encPk 14 A xs) (hx : xs.length ≤ 9223372036854775807) (hb : xs.length ≤ 60) : FSpec Try.prog 13 #[.slice A xs.length c] (old W) (fun _ : Unit => True) (fun _ => .bool true) (fun _ => old W) := by
  refine FSpec.enter' Try.func13 rfl Try.ntmps13 rfl fun σ F => ?_
  refine J_seq ?_
  refine J_region ?_
  refine L_v (opv_assign rfl) rfl ?_
  refine L_nil ?_
  refine K_then ?_
  refine J_seq ?_
  refine J_region ?_
  refine L_x rfl (opx_call0 (New_okE 64 100 (by decide) (by decide)) rfl rfl rfl) (fun tp _ => ?_)
  refine L_v (opv_move rfl) rfl ?_
  refine L_v (opv_extract rfl rfl) rfl ?_
  refine L_v (opv_extract rfl rfl) rfl ?_
  refine L_v (opv_assign rfl) rfl ?_
  refine L_v (opv_assign rfl) rfl ?_
  refine L_nil ?_
  refine K_then ?_
  refine J_seq ?_
  refine J_seq ?_
  refine J_region ?_
  refine L_v (opv_move rfl) rfl ?_
  refine L_v ((opv_neq rfl rfl).bool_f (by decide)) rfl ?_
  refine L_v (opv_move rfl) rfl ?_
  refine L_gon rfl rfl rfl ?_
  refine L_v (opv_move rfl) rfl ?_
  refine L_gon rfl rfl rfl ?_
  refine L_v (opv_eqlNil rfl rfl) rfl ?_
  first
    | refine L_v (opv_pick_tt rfl rfl) rfl ?_
    | refine L_v (opv_pick_ff rfl rfl) rfl ?_
    | refine L_v (opv_pick rfl rfl rfl) rfl ?_
  refine L_v (opv_move rfl) rfl ?_
  refine L_gon rfl rfl rfl ?_
  refine L_v (opv_move rfl) rfl ?_
  refine L_gon rfl rfl rfl ?_
  first
    | refine L_v (opv_lenL rfl) rfl ?_
    | refine L_v (opv_lenS rfl) rfl ?_
  refine L_gon rfl rfl rfl ?_
  refine L_v ((opv_gtr rfl rfl).bool_f (by omega)) rfl ?_
  first
    | refine L_v (opv_pick_tt rfl rfl) rfl ?_
    | refine L_v (opv_pick_ff rfl rfl) rfl ?_
    | refine L_v (opv_pick rfl rfl rfl) rfl ?_
  refine L_nil ?_
  refine K_then ?_
  refine J_cond_false rfl ?_
  refine J_skip ?_
  refine K_then ?_
  refine J_seq ?_
  refine J_seq ?_
  refine J_region ?_
  refine L_v (opv_assign rfl) rfl ?_
  refine L_nil ?_
  refine K_then ?_
  refine J_block ?_
  refine J_loop (X := Nat × TS) (fun y => [(0, .slice A xs.length c), (3, .pointer (some (ad tp 0))), (5, .int .i64 y.1)]) (fun y => (sep (TabP tp 64 100 y.2) (sep (old W) (F)))) (fun y => y.1 ≤ xs.length ∧ OInv xs y.1 y.2) (fun y => xs.length - y.1) ((0, ⟨[], 0, 0⟩)) ⟨Nat.zero_le _, ⟨tok0, Int.le_refl _, fun j x h => absurd h (Nat.not_lt_zero _), fun k b hb => by cases hb⟩⟩ ⟨rfl, rfl, rfl, trivial⟩ Ent.take (fun y hy => ?_)
  obtain ⟨hk, hy⟩ := hy
  refine J_seq ?_
  refine J_seq ?_
  refine J_region ?_
  refine L_v (opv_move rfl) rfl ?_
  refine L_v (opv_move rfl) rfl ?_
  first
    | refine L_v (opv_lenL rfl) rfl ?_
    | refine L_v (opv_lenS rfl) rfl ?_
  refine L_v (opv_lss rfl rfl) rfl ?_
  refine L_nil ?_
  refine K_then ?_
  refine J_cond rfl (fun h1 => ?_) (fun h1 => ?_)
  · have hkl : y.1 < xs.length := by omega
    obtain ⟨x, hxx⟩ : ∃ x, xs[y.1]? = some x := ⟨_, List.getElem?_eq_getElem hkl⟩
    obtain ⟨b, o, rfl⟩ := hR.nonnil y.1 hkl
    refine J_skip ?_
    refine K_then ?_
    refine J_seq ?_
    refine J_block ?_
    refine J_seq ?_
    refine J_seq ?_
    refine J_region ?_
    refine L_v (opv_move rfl) rfl ?_
    refine L_v (opv_move rfl) rfl ?_
    first
      | refine L_v (opv_indexAddr rfl rfl (by omega)) rfl ?_
      | refine L_v (opv_indexAddrA rfl rfl (by omega)) rfl ?_
    first
      | refine L_v (opv_fieldAddr0 rfl) rfl ?_
      | refine L_v (opv_fieldAddr rfl) rfl ?_
    refine L_v (opv_load rfl (Rd.of_take (S := old W) (hR.rd b o rfl y.1 x 13 _ hxx rfl))) rfl ?_
    first
      | refine L_v (opv_lenL rfl) rfl ?_
      | refine L_v (opv_lenS rfl) rfl ?_
    refine L_v (opv_gtr rfl rfl) rfl ?_
    refine L_nil ?_
    refine K_then ?_
    refine J_cond rfl (fun h2 => ?_) (fun h2 => ?_)
    · refine J_seq ?_
      refine J_region ?_
      refine L_x rfl (opx_call0 (rawake_spec) rfl rfl rfl) (fun _ _ => ?_)
      refine L_emp ?_
      refine L_v (opv_assign rfl) rfl ?_
      refine L_nil ?_
      refine K_then ?_
      refine J_ret ?_
      refine K_then_ret ?_
      refine K_block_ret ?_
      refine K_then_ret ?_
      refine K_then_ret ?_
      refine K_block_ret ?_
      refine K_then_ret ?_
      exact K_ret1 rfl rfl () trivial (rfl) Ent.take
    · refine J_skip ?_
      refine K_then ?_
      refine J_seq ?_
      obtain ⟨hst1, hst2⟩ := hy.step hxx (by omega) (by omega)
      obtain ⟨q, okb, cd, T2, hput⟩ : ∃ q okb cd T2, (y.2.put 64 100 y.1 x) = ((q, okb, cd), T2) := ⟨_, _, _, _, rfl⟩
      rw [hput] at hst1 hst2
      have hsp : FSpec Try.prog 32 #[.pointer (some (ad tp 0)), .int .i64 y.1, .agg [.int .i64 x.id, .bool x.more, .int .i64 x.off, .int .i64 x.ttl, .int .i64 x.proto, .int .u8 x.s0, .int .u8 x.s1, .int .u8 x.s2, .int .u8 x.s3, .int .u8 x.d0, .int .u8 x.d1, .int .u8 x.d2, .int .u8 x.d3, .string x.data].toArray] (TabP tp 64 100 y.2) (fun _ : Unit => True) (fun _ => .tuple #[.agg [.int .i64 q.id, .bool q.more, .int .i64 q.off, .int .i64 q.ttl, .int .i64 q.proto, .int .u8 q.s0, .int .u8 q.s1, .int .u8 q.s2, .int .u8 q.s3, .int .u8 q.d0, .int .u8 q.d1, .int .u8 q.d2, .int .u8 q.d3, .string q.data].toArray, .bool okb, .int .i64 cd]) (fun _ => TabP tp 64 100 T2) := by
          have := Put_any tp 64 100 y.2 y.1 x y.1 hy.ok (by omega) (by decide) (by omega)
          rw [hput] at this
          exact this
      refine J_region ?_
      refine L_v (opv_move rfl) rfl ?_
      refine L_v (opv_move rfl) rfl ?_
      refine L_v (opv_move rfl) rfl ?_
      refine L_v (opv_move rfl) rfl ?_
      first
        | refine L_v (opv_indexAddr rfl rfl (by omega)) rfl ?_
        | refine L_v (opv_indexAddrA rfl rfl (by omega)) rfl ?_
      refine L_v (opv_loadN (vs := [.int .i64 x.id, .bool x.more, .int .i64 x.off, .int .i64 x.ttl, .int .i64 x.proto, .int .u8 x.s0, .int .u8 x.s1, .int .u8 x.s2, .int .u8 x.s3, .int .u8 x.d0, .int .u8 x.d1, .int .u8 x.d2, .int .u8 x.d3, .string x.data]) rfl rfl (fun j u hj => Rd.of_take (S := old W) (hR.rd b o rfl y.1 x j u hxx hj))) rfl ?_
      refine L_x rfl (opx_call0 (hsp) rfl rfl rfl) (fun _ _ => ?_)
      refine L_v (opv_move rfl) rfl ?_
      refine L_v (opv_extract (v := .agg [.int .i64 q.id, .bool q.more, .int .i64 q.off, .int .i64 q.ttl, .int .i64 q.proto, .int .u8 q.s0, .int .u8 q.s1, .int .u8 q.s2, .int .u8 q.s3, .int .u8 q.d0, .int .u8 q.d1, .int .u8 q.d2, .int .u8 q.d3, .string q.data].toArray) rfl rfl) rfl ?_
      refine L_v (opv_extract rfl rfl) rfl ?_
      refine L_v (opv_extract rfl rfl) rfl ?_
      refine L_x rfl (opx_alloc rfl) (fun b6 _ => ?_)
      refine L_x rfl (opx_store rfl rfl rfl (by simp [Value.oneCell'])) (fun _ _ => ?_)
      refine L_v (opv_assign rfl) rfl ?_
      refine L_v (opv_assign rfl) rfl ?_
      refine L_nil ?_
      refine K_then ?_
      refine J_seq ?_
      refine J_seq ?_
      refine J_region ?_
      refine L_v (opv_move rfl) rfl ?_
      refine L_v ((opv_not rfl).as (v' := .bool (decide (okb = false))) (by cases okb <;> rfl)) rfl ?_
      refine L_nil ?_
      refine K_then ?_
      refine J_cond rfl (fun h3 => ?_) (fun h3 => ?_)
      · refine J_exit ?_
        refine K_then_exit ?_
        refine K_block_here ?_
        refine K_then ?_
        refine J_region ?_
        refine L_v (opv_move rfl) rfl ?_
        first
          | refine L_v (opv_add64 rfl rfl (by omega)) rfl ?_
          | refine L_v (opv_addS rfl rfl (by omega)) rfl ?_
          | refine L_v (opv_add rfl rfl) rfl ?_
        refine L_v (opv_assign rfl) rfl ?_
        refine L_nil ?_
        exact K_loop ((y.1 + 1, T2)) ⟨by dsimp only; omega, hst1⟩ (by dsimp only; omega) ⟨rfl, rfl, rfl, trivial⟩ Ent.take
      · refine J_skip ?_
        refine K_then ?_
        refine J_seq ?_
        refine J_region ?_
        refine L_v (opv_assign rfl) rfl ?_
        refine L_nil ?_
        refine K_then ?_
        refine J_seq ?_
        refine J_seq ?_
        refine J_imp (sep (Own 32 14 (.slice none 0 0) 0 []) (sep (cel b6 [.int .i64 q.id, .bool q.more, .int .i64 q.off, .int .i64 q.ttl, .int .i64 q.proto, .int .u8 q.s0, .int .u8 q.s1, .int .u8 q.s2, .int .u8 q.s3, .int .u8 q.d0, .int .u8 q.d1, .int .u8 q.d2, .int .u8 q.d3, .string q.data] 32) (sep (TabP tp 64 100 T2) (sep (old W) (F))))) (Ent.trans (Ent.trans (Ent.take (Q := (sep (cel b6 [.int .i64 q.id, .bool q.more, .int .i64 q.off, .int .i64 q.ttl, .int .i64 q.proto, .int .u8 q.s0, .int .u8 q.s1, .int .u8 q.s2, .int .u8 q.s3, .int .u8 q.d0, .int .u8 q.d1, .int .u8 q.d2, .int .u8 q.d3, .string q.data] 32) (sep (TabP tp 64 100 T2) (sep (old W) (F)))))) (Ent.of (emp_sep _).symm)) ((Own.nil 32 14).frame _)) ?_
        refine J_region ?_
        refine L_v ((opv_move rfl).as (v' := .int .i64 (((y.1 + 1 : Nat) : Int) - 1)) (congrArg (Value.int .i64) (by omega))) rfl ?_
        refine L_v (opv_assign rfl) rfl ?_
        refine L_nil ?_
        refine K_then ?_
        refine J_block ?_
        refine J_loop (X := Nat × List Pk × (Option Addr × Nat)) (fun z => [(0, .slice (some (ad b o)) xs.length c), (3, .pointer (some (ad tp 0))), (5, .int .i64 y.1), (6, .pointer (some (ad b6 0))), (9, .slice z.2.2.1 z.2.1.length z.2.2.2), (10, .int .i64 ((z.1 : Int) - 1))]) (fun z => (sep (Own 32 14 (.slice z.2.2.1 z.2.1.length z.2.2.2) z.2.1.length (z.2.1.flatMap encPk)) (sep (cel b6 [.int .i64 q.id, .bool q.more, .int .i64 q.off, .int .i64 q.ttl, .int .i64 q.proto, .int .u8 q.s0, .int .u8 q.s1, .int .u8 q.s2, .int .u8 q.s3, .int .u8 q.d0, .int .u8 q.d1, .int .u8 q.d2, .int .u8 q.d3, .string q.data] 32) (sep (TabP tp 64 100 T2) (sep (old W) (F)))))) (fun z => z.1 ≤ y.1 + 1 ∧ sc xs (kyOf q) y.1 (y.1 + 1) = sc xs (kyOf q) y.1 z.1 ++ z.2.1 ∧ z.1 + z.2.1.length ≤ y.1 + 1) (fun z => z.1) ((y.1 + 1, [], (none, 0))) ⟨Nat.le_refl _, by simp, Nat.le_refl _⟩ ⟨rfl, rfl, rfl, rfl, rfl, rfl, trivial⟩ (Ent.take (Q := (sep (Own 32 14 (.slice none 0 0) 0 []) (sep (cel b6 [.int .i64 q.id, .bool q.more, .int .i64 q.off, .int .i64 q.ttl, .int .i64 q.proto, .int .u8 q.s0, .int .u8 q.s1, .int .u8 q.s2, .int .u8 q.s3, .int .u8 q.d0, .int .u8 q.d1, .int .u8 q.d2, .int .u8 q.d3, .string q.data] 32) (sep (TabP tp 64 100 T2) (sep (old W) (F))))))) (fun z hz => ?_)
        obtain ⟨hz1, hz2, hz3⟩ := hz
        refine J_know (fun w hs => own_nonnil hs) fun hA => ?_
        refine J_seq ?_
        refine J_seq ?_
        refine J_region ?_
        refine L_v (opv_move rfl) rfl ?_
        refine L_v (opv_geq rfl rfl) rfl ?_
        refine L_nil ?_
        refine K_then ?_
        refine J_cond rfl (fun h4 => ?_) (fun h4 => ?_)
        · obtain ⟨n', hn'⟩ : ∃ n', z.1 = n' + 1 := ⟨z.1 - 1, by omega⟩
          obtain ⟨xn, hxn⟩ : ∃ x, xs[n']? = some x := ⟨_, List.getElem?_eq_getElem (by omega)⟩
          refine J_skip ?_
          refine K_then ?_
          refine J_seq ?_
          refine J_block ?_
          refine J_seq ?_
          refine J_seq ?_
          refine J_quiet Try.mixed (by kernel_rfl) ?_
          refine Q_v (opv_move rfl) rfl ?_
          refine Q_v ((opv_move rfl).as (v' := .int .i64 ((n' : Nat) : Int)) (congrArg (Value.int .i64) (by omega))) rfl ?_
          first
            | refine Q_v (opv_indexAddr rfl rfl (by omega)) rfl ?_
            | refine Q_v (opv_indexAddrA rfl rfl (by omega)) rfl ?_
          first
            | refine Q_v (opv_fieldAddr0 rfl) rfl ?_
            | refine Q_v (opv_fieldAddr rfl) rfl ?_
          refine Q_v (opv_loadN (vs := [.int .u8 xn.s0, .int .u8 xn.s1, .int .u8 xn.s2, .int .u8 xn.s3]) rfl rfl (fun j u hj => Rd.of_take (S := old W) (RdS.rdf hR hxn 5 (vs := [.int .u8 xn.s0, .int .u8 xn.s1, .int .u8 xn.s2, .int .u8 xn.s3]) (fun j u h => by match j, h with | 0, h => exact h | 1, h => exact h | 2, h => exact h | 3, h => exact h) j u hj))) rfl ?_
          first
            | refine Q_v (opv_fieldAddr0 rfl) rfl ?_
            | refine Q_v (opv_fieldAddr rfl) rfl ?_
          refine Q_v (opv_loadS rfl) rfl ?_
          refine Q_v ((opv_neqF rfl rfl (by simp [Shape, CK.sh]) (by simp [Shape, CK.sh])).as (v' := .bool (decide (¬ s4 xn = s4 q))) (congrArg Value.bool (decide_eq_decide.2 eqs_iff))) rfl ?_
          refine Q_v (opv_move rfl) rfl ?_
          refine Q_gf rfl rfl (fun h5 => ?_) (fun h5 => ?_) (fun _ h => by cases h; rfl)
          · refine Q_v (opv_move rfl) rfl ?_
            refine Q_gf_on h5 rfl rfl ?_
            refine Q_v ((opv_move rfl).as (v' := .int .i64 ((n' : Nat) : Int)) (congrArg (Value.int .i64) (by omega))) rfl ?_
            refine Q_gf_on h5 rfl rfl ?_
            refine Q_v (opv_indexAddr rfl rfl (by omega)) rfl ?_
            refine Q_gf_on h5 rfl rfl ?_
            first
              | refine Q_v (opv_fieldAddr0 rfl) rfl ?_
              | refine Q_v (opv_fieldAddr rfl) rfl ?_
            refine Q_gf_on h5 rfl rfl ?_
            refine Q_v (opv_loadN (vs := [.int .u8 xn.d0, .int .u8 xn.d1, .int .u8 xn.d2, .int .u8 xn.d3]) rfl rfl (fun j u hj => Rd.of_take (S := old W) (RdS.rdf hR hxn 9 (vs := [.int .u8 xn.d0, .int .u8 xn.d1, .int .u8 xn.d2, .int .u8 xn.d3]) (fun j u h => by match j, h with | 0, h => exact h | 1, h => exact h | 2, h => exact h | 3, h => exact h) j u hj))) rfl ?_
            refine Q_gf_on h5 rfl rfl ?_
            first
              | refine Q_v (opv_fieldAddr0 rfl) rfl ?_
              | refine Q_v (opv_fieldAddr rfl) rfl ?_
            refine Q_gf_on h5 rfl rfl ?_
            refine Q_v (opv_loadS rfl) rfl ?_
            refine Q_gf_on h5 rfl rfl ?_
            refine Q_v ((opv_neqF rfl rfl (by simp [Shape, CK.sh]) (by simp [Shape, CK.sh])).as (v' := .bool (decide (¬ d4 xn = d4 q))) (congrArg Value.bool (decide_eq_decide.2 eqd_iff))) rfl ?_
            refine Q_v (opv_pick_f rfl h5 rfl) rfl ?_
            refine Q_v (opv_move rfl) rfl ?_
            refine Q_gf rfl rfl (fun h6 => ?_) (fun h6 => ?_) (fun _ h => by cases h; rfl)
            · refine Q_v (opv_move rfl) rfl ?_
              refine Q_gf_on h6 rfl rfl ?_
              refine Q_v ((opv_move rfl).as (v' := .int .i64 ((n' : Nat) : Int)) (congrArg (Value.int .i64) (by omega))) rfl ?_
              refine Q_gf_on h6 rfl rfl ?_
              refine Q_v (opv_indexAddr rfl rfl (by omega)) rfl ?_
              refine Q_gf_on h6 rfl rfl ?_
              first
                | refine Q_v (opv_fieldAddr0 rfl) rfl ?_
                | refine Q_v (opv_fieldAddr rfl) rfl ?_
              refine Q_gf_on h6 rfl rfl ?_
              refine Q_v (opv_load rfl (Rd.of_take (S := old W) (hR.rd b o rfl n' xn 4 _ hxn rfl))) rfl ?_
              refine Q_gf_on h6 rfl rfl ?_
              first
                | refine Q_v (opv_fieldAddr0 rfl) rfl ?_
                | refine Q_v (opv_fieldAddr rfl) rfl ?_
              refine Q_gf_on h6 rfl rfl ?_
              refine Q_v (opv_load rfl (Rd.look rfl)) rfl ?_
              refine Q_gf_on h6 rfl rfl ?_
              first
                | refine Q_v (opv_neq rfl rfl) rfl ?_
                | refine Q_v (opv_neqS rfl rfl) rfl ?_
                | refine Q_v (opv_neqNil rfl rfl) rfl ?_
                | refine Q_v (opv_neqB rfl rfl) rfl ?_
              refine Q_v (opv_pick_f rfl h6 rfl) rfl ?_
              refine Q_v (opv_move rfl) rfl ?_
              refine Q_gf rfl rfl (fun h7 => ?_) (fun h7 => ?_) (fun _ h => by cases h; rfl)
              · refine Q_v (opv_move rfl) rfl ?_
                refine Q_gf_on h7 rfl rfl ?_
                refine Q_v ((opv_move rfl).as (v' := .int .i64 ((n' : Nat) : Int)) (congrArg (Value.int .i64) (by omega))) rfl ?_
                refine Q_gf_on h7 rfl rfl ?_
                refine Q_v (opv_indexAddr rfl rfl (by omega)) rfl ?_
                refine Q_gf_on h7 rfl rfl ?_
                first
                  | refine Q_v (opv_fieldAddr0 rfl) rfl ?_
                  | refine Q_v (opv_fieldAddr rfl) rfl ?_
                refine Q_gf_on h7 rfl rfl ?_
                refine Q_v (opv_load rfl (Rd.of_take (S := old W) (hR.rd b o rfl n' xn 0 _ hxn rfl))) rfl ?_
                refine Q_gf_on h7 rfl rfl ?_
                first
                  | refine Q_v (opv_fieldAddr0 rfl) rfl ?_
                  | refine Q_v (opv_fieldAddr rfl) rfl ?_
                refine Q_gf_on h7 rfl rfl ?_
                refine Q_v (opv_load rfl (Rd.look rfl)) rfl ?_
                refine Q_gf_on h7 rfl rfl ?_
                first
                  | refine Q_v (opv_neq rfl rfl) rfl ?_
                  | refine Q_v (opv_neqS rfl rfl) rfl ?_
                  | refine Q_v (opv_neqNil rfl rfl) rfl ?_
                  | refine Q_v (opv_neqB rfl rfl) rfl ?_
                refine Q_v (opv_pick_f rfl h7 rfl) rfl ?_
                refine Q_v (opv_move rfl) rfl ?_
                refine Q_gf rfl rfl (fun h8 => ?_) (fun h8 => ?_) (fun _ h => by cases h; rfl)
                · refine Q_v (opv_move rfl) rfl ?_
                  refine Q_gf_on h8 rfl rfl ?_
                  refine Q_v ((opv_move rfl).as (v' := .int .i64 ((n' : Nat) : Int)) (congrArg (Value.int .i64) (by omega))) rfl ?_
                  refine Q_gf_on h8 rfl rfl ?_
                  refine Q_v (opv_indexAddr rfl rfl (by omega)) rfl ?_
                  refine Q_gf_on h8 rfl rfl ?_
                  first
                    | refine Q_v (opv_fieldAddr0 rfl) rfl ?_
                    | refine Q_v (opv_fieldAddr rfl) rfl ?_
                  refine Q_gf_on h8 rfl rfl ?_
                  refine Q_v (opv_load rfl (Rd.of_take (S := old W) (hR.rd b o rfl n' xn 2 _ hxn rfl))) rfl ?_
                  refine Q_gf_on h8 rfl rfl ?_
                  first
                    | refine Q_v (opv_eql rfl rfl) rfl ?_
                    | refine Q_v (opv_eqlS rfl rfl) rfl ?_
                    | refine Q_v (opv_eqlNil rfl rfl) rfl ?_
                    | refine Q_v (opv_eqlB rfl rfl) rfl ?_
                  refine Q_gf_on h8 rfl rfl ?_
                  refine Q_v (opv_move rfl) rfl ?_
                  refine Q_gt rfl rfl (fun h9 => ?_) (fun h9 => ?_) (fun _ h => by cases h; rfl)
                  · refine Q_v (opv_move rfl) rfl ?_
                    refine Q_gt_on h9 rfl rfl ?_
                    refine Q_v ((opv_move rfl).as (v' := .int .i64 ((n' : Nat) : Int)) (congrArg (Value.int .i64) (by omega))) rfl ?_
                    refine Q_gt_on h9 rfl rfl ?_
                    refine Q_v (opv_indexAddr rfl rfl (by omega)) rfl ?_
                    refine Q_gt_on h9 rfl rfl ?_
                    first
                      | refine Q_v (opv_fieldAddr0 rfl) rfl ?_
                      | refine Q_v (opv_fieldAddr rfl) rfl ?_
                    refine Q_gt_on h9 rfl rfl ?_
                    refine Q_v (opv_load rfl (Rd.of_take (S := old W) (hR.rd b o rfl n' xn 1 _ hxn rfl))) rfl ?_
                    refine Q_gt_on h9 rfl rfl ?_
                    refine Q_v ((opv_not rfl).as (v' := .bool (decide (xn.more = false))) (by cases xn.more <;> rfl)) rfl ?_
                    refine Q_gf_on h8 rfl rfl ?_
                    refine Q_v (opv_pick_t rfl h9 rfl) rfl ?_
                    refine Q_gf_on h8 rfl rfl ?_
                    refine Q_v (opv_move rfl) rfl ?_
                    refine Q_gt rfl rfl (fun h10 => ?_) (fun h10 => ?_) (fun _ h => by cases h; rfl)
                    · refine Q_v ((opv_move rfl).as (v' := .int .i64 ((n' : Nat) : Int)) (congrArg (Value.int .i64) (by omega))) rfl ?_
                      refine Q_gt_on h10 rfl rfl ?_
                      refine Q_v (opv_move rfl) rfl ?_
                      refine Q_gt_on h10 rfl rfl ?_
                      refine Q_v (opv_lss rfl rfl) rfl ?_
                      refine Q_gf_on h8 rfl rfl ?_
                      refine Q_v (opv_pick_t rfl h10 rfl) rfl ?_
                      refine Q_v (opv_pick_f rfl h8 rfl) rfl ?_
                      refine QL_nil ?_
                      refine K_then ?_
                      refine J_cond rfl (fun h11 => ?_) (fun h11 => ?_)
                      · refine J_exit ?_
                        refine K_then_exit ?_
                        refine K_block_here ?_
                        refine K_then ?_
                        refine J_region ?_
                        refine L_v (opv_move rfl) rfl ?_
                        refine L_v ((opv_sub64 rfl rfl (by omega)).as (v' := .int .i64 ((n' : Int) - 1)) (congrArg (Value.int .i64) (by omega))) rfl ?_
                        refine L_v (opv_assign rfl) rfl ?_
                        refine L_nil ?_
                        have hnu : ¬ useB (kyOf q) y.1 n' xn := by first | exact no_s (by assumption) | exact no_d (by assumption) | exact no_p (by assumption) | exact no_i (by assumption) | exact fun g => g.2 ⟨by assumption, by assumption, by omega⟩
                        have hsk := sc_skip hxn hnu
                        exact K_loop ((n', z.2.1, z.2.2)) ⟨by dsimp only; omega, by dsimp only; rw [← hsk, ← hn']; exact hz2, by dsimp only; omega⟩ (by dsimp only; omega) ⟨rfl, rfl, rfl, rfl, rfl, rfl, trivial⟩ Ent.take
                      · have hus : useB (kyOf q) y.1 n' xn := ⟨ky_all (by assumption) (by assumption) (by assumption) (by assumption), fun g => by first | exact absurd g.1 (by assumption) | exact absurd g.2.1 (by assumption) | (have := g.2.2; omega)⟩
                        refine J_skip ?_
                        refine K_then ?_
                        refine J_seq ?_
                        refine J_region ?_
                        refine L_v (opv_move rfl) rfl ?_
                        refine L_v ((opv_move rfl).as (v' := .int .i64 ((n' : Nat) : Int)) (congrArg (Value.int .i64) (by omega))) rfl ?_
                        first
                          | refine L_v (opv_indexAddr rfl rfl (by omega)) rfl ?_
                          | refine L_v (opv_indexAddrA rfl rfl (by omega)) rfl ?_
                        refine L_v (opv_loadN (vs := [.int .i64 xn.id, .bool xn.more, .int .i64 xn.off, .int .i64 xn.ttl, .int .i64 xn.proto, .int .u8 xn.s0, .int .u8 xn.s1, .int .u8 xn.s2, .int .u8 xn.s3, .int .u8 xn.d0, .int .u8 xn.d1, .int .u8 xn.d2, .int .u8 xn.d3, .string xn.data]) rfl rfl (fun j u hj => Rd.of_take (S := old W) (hR.rd b o rfl n' xn j u hxn hj))) rfl ?_
                        refine L_x rfl (opx_alloc rfl) (fun b11 _ => ?_)
                        refine L_x rfl (opx_store rfl rfl rfl (by simp [Value.oneCell'])) (fun _ _ => ?_)
                        refine L_nil ?_
                        refine K_then ?_
                        refine J_seq ?_
                        refine J_region ?_
                        first
                          | refine L_v (opv_fieldAddr0 rfl) rfl ?_
                          | refine L_v (opv_fieldAddr rfl) rfl ?_
                        refine L_x rfl (opx_store rfl rfl rfl (by simp [Value.oneCell'])) (fun _ _ => ?_)
                        refine L_nil ?_
                        refine K_then ?_
                        refine J_seq ?_
                        refine J_region ?_
                        refine L_v (opv_loadS rfl) rfl ?_
                        refine L_x rfl (opx_buildSlice1 (m := 14) rfl rfl (by omega) (by omega) rfl) (fun b135 _ => ?_)
                        refine L_v (opv_move rfl) rfl ?_
                        refine L_imp (sep (Own 32 14 (.slice (some (ad b135 0)) 1 1) 1 [.int .i64 xn.id, .bool xn.more, .int .i64 xn.off, .int .i64 0, .int .i64 xn.proto, .int .u8 xn.s0, .int .u8 xn.s1, .int .u8 xn.s2, .int .u8 xn.s3, .int .u8 xn.d0, .int .u8 xn.d1, .int .u8 xn.d2, .int .u8 xn.d3, .string xn.data]) (sep (Own 32 14 (.slice z.2.2.1 z.2.1.length z.2.2.2) z.2.1.length (z.2.1.flatMap encPk)) (sep (cel b6 [.int .i64 q.id, .bool q.more, .int .i64 q.off, .int .i64 q.ttl, .int .i64 q.proto, .int .u8 q.s0, .int .u8 q.s1, .int .u8 q.s2, .int .u8 q.s3, .int .u8 q.d0, .int .u8 q.d1, .int .u8 q.d2, .int .u8 q.d3, .string q.data] 32) (sep (TabP tp 64 100 T2) (sep (old W) (F)))))) (Ent.trans Ent.take ((Own.lit (e := 32) (m := 14) (len := 1) (b := b135) (l := [.int .i64 xn.id, .bool xn.more, .int .i64 xn.off, .int .i64 0, .int .i64 xn.proto, .int .u8 xn.s0, .int .u8 xn.s1, .int .u8 xn.s2, .int .u8 xn.s3, .int .u8 xn.d0, .int .u8 xn.d1, .int .u8 xn.d2, .int .u8 xn.d3, .string xn.data]) rfl (by decide)).frame _)) ?_
                        refine L_x rfl (opx_append (m := 14) (B := 64) rfl rfl (Src.ownA (e := 32) (m := 14) (len := z.2.1.length) (l := z.2.1.flatMap encPk) hA) rfl (by omega) (flat_len encPk_len _) (flatPk_one _) (by unfold maxLen; omega) (by omega) rfl) (fun y137 _ => ?_)
                        rw [show 1 + z.2.1.length = (xn.z :: z.2.1).length by rw [List.length_cons]; omega, encPk_z xn z.2.1]
                        refine L_v (opv_assign rfl) rfl ?_
                        refine L_nil ?_
                        refine K_then ?_
                        refine J_seq ?_
                        refine J_region ?_
                        refine L_v (opv_move rfl) rfl ?_
                        refine L_v ((opv_move rfl).as (v' := .int .i64 ((n' : Nat) : Int)) (congrArg (Value.int .i64) (by omega))) rfl ?_
                        first
                          | refine L_v (opv_indexAddr rfl rfl (by omega)) rfl ?_
                          | refine L_v (opv_indexAddrA rfl rfl (by omega)) rfl ?_
                        first
                          | refine L_v (opv_fieldAddr0 rfl) rfl ?_
                          | refine L_v (opv_fieldAddr rfl) rfl ?_
                        refine L_v (opv_load rfl (Rd.of_take (S := old W) (hR.rd b o rfl n' xn 2 _ hxn rfl))) rfl ?_
                        first
                          | refine L_v (opv_eql rfl rfl) rfl ?_
                          | refine L_v (opv_eqlS rfl rfl) rfl ?_
                          | refine L_v (opv_eqlNil rfl rfl) rfl ?_
                          | refine L_v (opv_eqlB rfl rfl) rfl ?_
                        refine L_nil ?_
                        refine K_then ?_
                        refine J_cond rfl (fun h12 => ?_) (fun h12 => ?_)
                        · refine J_exit ?_
                          refine K_block_on rfl ?_
                          refine K_then_exit ?_
                          refine K_then_exit ?_
                          refine K_block_here ?_
                          refine K_then ?_
                          refine J_seq ?_
                          refine J_imp (sep (Own 32 14 (.slice y137.1 (xn.z :: z.2.1).length y137.2) (xn.z :: z.2.1).length ((xn.z :: z.2.1).flatMap encPk)) (sep (cel b6 [.int .i64 q.id, .bool q.more, .int .i64 q.off, .int .i64 q.ttl, .int .i64 q.proto, .int .u8 q.s0, .int .u8 q.s1, .int .u8 q.s2, .int .u8 q.s3, .int .u8 q.d0, .int .u8 q.d1, .int .u8 q.d2, .int .u8 q.d3, .string q.data] 32) (sep (TabP tp 64 100 T2) (sep (old W) (F))))) ?_ ?_
                          · exact Ent.take
                          refine J_know (fun w hs => own_nonnil hs) fun hA2 => ?_
                          have hfin : sc xs (kyOf q) y.1 (y.1 + 1) = (xn.z :: z.2.1) := by rw [hz2, hn', sc_first hxn hus (by assumption)]; rfl
                          obtain ⟨hq1, hq2, hq3⟩ := hst2 (by simpa using h3)
                          rw [← hq1, hfin] at hq2 hq3
                          have hsm : ∀ x2 ∈ (xn.z :: z.2.1), x2.data.size ≤ 500 := fun x2 hx2 => by rw [← hfin] at hx2; obtain ⟨j, y2, hj, hy2, rfl, _⟩ := sc_mem _ x2 hx2; exact hst1.small j y2 (by omega) hy2
                          refine J_region ?_
                          refine L_v (opv_move rfl) rfl ?_
                          refine L_x rfl (opx_call0 (Join_any (Own 32 14 (.slice y137.1 (xn.z :: z.2.1).length y137.2) (xn.z :: z.2.1).length ((xn.z :: z.2.1).flatMap encPk)) y137.1 y137.2 (xn.z :: z.2.1) (RdS.own (m := 14) (e := 32) (c := y137.2) (xs := (xn.z :: z.2.1)) encPk_len (hA2.imp (fun g => List.eq_nil_of_length_eq_zero g.2.2.1) id)) (by rw [List.length_cons]; omega) (fun x2 hx2 => by have := hsm x2 hx2; omega)) rfl rfl rfl) (fun _ _ => ?_)
                          rw [hq2]
                          refine L_v (opv_move rfl) rfl ?_
                          first
                            | refine L_v (opv_extract (v := .agg [.int .i64 (joinC (xn.z :: z.2.1)).1.id, .bool (joinC (xn.z :: z.2.1)).1.more, .int .i64 (joinC (xn.z :: z.2.1)).1.off, .int .i64 (joinC (xn.z :: z.2.1)).1.ttl, .int .i64 (joinC (xn.z :: z.2.1)).1.proto, .int .u8 (joinC (xn.z :: z.2.1)).1.s0, .int .u8 (joinC (xn.z :: z.2.1)).1.s1, .int .u8 (joinC (xn.z :: z.2.1)).1.s2, .int .u8 (joinC (xn.z :: z.2.1)).1.s3, .int .u8 (joinC (xn.z :: z.2.1)).1.d0, .int .u8 (joinC (xn.z :: z.2.1)).1.d1, .int .u8 (joinC (xn.z :: z.2.1)).1.d2, .int .u8 (joinC (xn.z :: z.2.1)).1.d3, .string (joinC (xn.z :: z.2.1)).1.data].toArray) rfl rfl) rfl ?_
                            | refine L_v (opv_extract (v := .agg [.int .i64 (joinC z.2.1).1.id, .bool (joinC z.2.1).1.more, .int .i64 (joinC z.2.1).1.off, .int .i64 (joinC z.2.1).1.ttl, .int .i64 (joinC z.2.1).1.proto, .int .u8 (joinC z.2.1).1.s0, .int .u8 (joinC z.2.1).1.s1, .int .u8 (joinC z.2.1).1.s2, .int .u8 (joinC z.2.1).1.s3, .int .u8 (joinC z.2.1).1.d0, .int .u8 (joinC z.2.1).1.d1, .int .u8 (joinC z.2.1).1.d2, .int .u8 (joinC z.2.1).1.d3, .string (joinC z.2.1).1.data].toArray) rfl rfl) rfl ?_
                          refine L_v (opv_extract rfl rfl) rfl ?_
                          refine L_x rfl (opx_alloc rfl) (fun b12 _ => ?_)
                          refine L_x rfl (opx_store rfl rfl rfl (by simp [Value.oneCell'])) (fun _ _ => ?_)
                          refine L_v (opv_assign rfl) rfl ?_
                          refine L_nil ?_
                          refine K_then ?_
                          refine J_seq ?_
                          refine J_region ?_
                          refine L_v (opv_move rfl) rfl ?_
                          refine L_v ((opv_neq rfl rfl).bool_f (by decide)) rfl ?_
                          refine L_v (opv_move rfl) rfl ?_
                          refine L_gon rfl rfl rfl ?_
                          first
                            | refine L_v (opv_fieldAddr0 rfl) rfl ?_
                            | refine L_v (opv_fieldAddr rfl) rfl ?_
                          refine L_gon rfl rfl rfl ?_
                          refine L_v (opv_load rfl (Rd.look rfl)) rfl ?_
                          refine L_gon rfl rfl rfl ?_
                          first
                            | refine L_v (opv_fieldAddr0 rfl) rfl ?_
                            | refine L_v (opv_fieldAddr rfl) rfl ?_
                          refine L_gon rfl rfl rfl ?_
                          refine L_v (opv_load rfl (Rd.look rfl)) rfl ?_
                          refine L_gon rfl rfl rfl ?_
                          refine L_v ((opv_neqS rfl rfl).bool_f (fun n => n hq3)) rfl ?_
                          first
                            | refine L_v (opv_pick_tt rfl rfl) rfl ?_
                            | refine L_v (opv_pick_ff rfl rfl) rfl ?_
                            | refine L_v (opv_pick rfl rfl rfl) rfl ?_
                          refine L_nil ?_
                          refine K_then ?_
                          refine J_cond_false rfl ?_
                          refine J_skip ?_
                          refine K_block ?_
                          refine K_then ?_
                          refine J_region ?_
                          refine L_v (opv_move rfl) rfl ?_
                          first
                            | refine L_v (opv_add64 rfl rfl (by omega)) rfl ?_
                            | refine L_v (opv_addS rfl rfl (by omega)) rfl ?_
                            | refine L_v (opv_add rfl rfl) rfl ?_
                          refine L_v (opv_assign rfl) rfl ?_
                          refine L_nil ?_
                          exact K_loop ((y.1 + 1, T2)) ⟨by dsimp only; omega, hst1⟩ (by dsimp only; omega) ⟨rfl, rfl, rfl, trivial⟩ Ent.take
                        · refine J_skip ?_
                          refine K_block ?_
                          refine K_then ?_
                          refine J_region ?_
                          refine L_v (opv_move rfl) rfl ?_
                          refine L_v ((opv_sub64 rfl rfl (by omega)).as (v' := .int .i64 ((n' : Int) - 1)) (congrArg (Value.int .i64) (by omega))) rfl ?_
                          refine L_v (opv_assign rfl) rfl ?_
                          refine L_nil ?_
                          have hsk := sc_next hxn hus (by assumption)
                          exact K_loop ((n', xn.z :: z.2.1, y137)) ⟨by dsimp only; omega, by dsimp only; rw [hz2, hn', hsk, List.append_assoc]; rfl, by dsimp only; rw [List.length_cons]; omega⟩ (by dsimp only; omega) ⟨rfl, rfl, rfl, rfl, rfl, rfl, trivial⟩ Ent.take
                    · refine Q_gt_off h10 rfl rfl ?_ (fun _ h => by cases h; rfl)
                      refine Q_gt_off h10 rfl rfl ?_ (fun _ h => by cases h; rfl)
                      refine Q_gf_on h8 rfl rfl ?_
                      refine Q_v (opv_pick_f rfl h10 rfl) rfl ?_
                      refine Q_v (opv_pick_f rfl h8 rfl) rfl ?_
                      refine QL_nil ?_
                      refine K_then ?_
                      refine J_cond_false rfl ?_
                      have hus : useB (kyOf q) y.1 n' xn := ⟨ky_all (by assumption) (by assumption) (by assumption) (by assumption), fun g => by first | exact absurd g.1 (by assumption) | exact absurd g.2.1 (by assumption) | (have := g.2.2; omega)⟩
                      refine J_skip ?_
                      refine K_then ?_
                      refine J_seq ?_
                      refine J_region ?_
                      refine L_v (opv_move rfl) rfl ?_
                      refine L_v ((opv_move rfl).as (v' := .int .i64 ((n' : Nat) : Int)) (congrArg (Value.int .i64) (by omega))) rfl ?_
                      first
                        | refine L_v (opv_indexAddr rfl rfl (by omega)) rfl ?_
                        | refine L_v (opv_indexAddrA rfl rfl (by omega)) rfl ?_
                      refine L_v (opv_loadN (vs := [.int .i64 xn.id, .bool xn.more, .int .i64 xn.off, .int .i64 xn.ttl, .int .i64 xn.proto, .int .u8 xn.s0, .int .u8 xn.s1, .int .u8 xn.s2, .int .u8 xn.s3, .int .u8 xn.d0, .int .u8 xn.d1, .int .u8 xn.d2, .int .u8 xn.d3, .string xn.data]) rfl rfl (fun j u hj => Rd.of_take (S := old W) (hR.rd b o rfl n' xn j u hxn hj))) rfl ?_
                      refine L_x rfl (opx_alloc rfl) (fun b11 _ => ?_)
                      refine L_x rfl (opx_store rfl rfl rfl (by simp [Value.oneCell'])) (fun _ _ => ?_)
                      refine L_nil ?_
                      refine K_then ?_
                      refine J_seq ?_
                      refine J_region ?_
                      first
                        | refine L_v (opv_fieldAddr0 rfl) rfl ?_
                        | refine L_v (opv_fieldAddr rfl) rfl ?_
                      refine L_x rfl (opx_store rfl rfl rfl (by simp [Value.oneCell'])) (fun _ _ => ?_)
                      refine L_nil ?_
                      refine K_then ?_
                      refine J_seq ?_
                      refine J_region ?_
                      refine L_v (opv_loadS rfl) rfl ?_
                      refine L_x rfl (opx_buildSlice1 (m := 14) rfl rfl (by omega) (by omega) rfl) (fun b135 _ => ?_)
                      refine L_v (opv_move rfl) rfl ?_
                      refine L_imp (sep (Own 32 14 (.slice (some (ad b135 0)) 1 1) 1 [.int .i64 xn.id, .bool xn.more, .int .i64 xn.off, .int .i64 0, .int .i64 xn.proto, .int .u8 xn.s0, .int .u8 xn.s1, .int .u8 xn.s2, .int .u8 xn.s3, .int .u8 xn.d0, .int .u8 xn.d1, .int .u8 xn.d2, .int .u8 xn.d3, .string xn.data]) (sep (Own 32 14 (.slice z.2.2.1 z.2.1.length z.2.2.2) z.2.1.length (z.2.1.flatMap encPk)) (sep (cel b6 [.int .i64 q.id, .bool q.more, .int .i64 q.off, .int .i64 q.ttl, .int .i64 q.proto, .int .u8 q.s0, .int .u8 q.s1, .int .u8 q.s2, .int .u8 q.s3, .int .u8 q.d0, .int .u8 q.d1, .int .u8 q.d2, .int .u8 q.d3, .string q.data] 32) (sep (TabP tp 64 100 T2) (sep (old W) (F)))))) (Ent.trans Ent.take ((Own.lit (e := 32) (m := 14) (len := 1) (b := b135) (l := [.int .i64 xn.id, .bool xn.more, .int .i64 xn.off, .int .i64 0, .int .i64 xn.proto, .int .u8 xn.s0, .int .u8 xn.s1, .int .u8 xn.s2, .int .u8 xn.s3, .int .u8 xn.d0, .int .u8 xn.d1, .int .u8 xn.d2, .int .u8 xn.d3, .string xn.data]) rfl (by decide)).frame _)) ?_
                      refine L_x rfl (opx_append (m := 14) (B := 64) rfl rfl (Src.ownA (e := 32) (m := 14) (len := z.2.1.length) (l := z.2.1.flatMap encPk) hA) rfl (by omega) (flat_len encPk_len _) (flatPk_one _) (by unfold maxLen; omega) (by omega) rfl) (fun y137 _ => ?_)
                      rw [show 1 + z.2.1.length = (xn.z :: z.2.1).length by rw [List.length_cons]; omega, encPk_z xn z.2.1]
                      refine L_v (opv_assign rfl) rfl ?_
                      refine L_nil ?_
                      refine K_then ?_
                      refine J_seq ?_
                      refine J_region ?_
                      refine L_v (opv_move rfl) rfl ?_
                      refine L_v ((opv_move rfl).as (v' := .int .i64 ((n' : Nat) : Int)) (congrArg (Value.int .i64) (by omega))) rfl ?_
                      first
                        | refine L_v (opv_indexAddr rfl rfl (by omega)) rfl ?_
                        | refine L_v (opv_indexAddrA rfl rfl (by omega)) rfl ?_
                      first
                        | refine L_v (opv_fieldAddr0 rfl) rfl ?_
                        | refine L_v (opv_fieldAddr rfl) rfl ?_
                      refine L_v (opv_load rfl (Rd.of_take (S := old W) (hR.rd b o rfl n' xn 2 _ hxn rfl))) rfl ?_
                      first
                        | refine L_v (opv_eql rfl rfl) rfl ?_
                        | refine L_v (opv_eqlS rfl rfl) rfl ?_
                        | refine L_v (opv_eqlNil rfl rfl) rfl ?_
                        | refine L_v (opv_eqlB rfl rfl) rfl ?_
                      refine L_nil ?_
                      refine K_then ?_
                      refine J_cond rfl (fun h13 => ?_) (fun h13 => ?_)
                      · refine J_exit ?_
                        refine K_block_on rfl ?_
                        refine K_then_exit ?_
                        refine K_then_exit ?_
                        refine K_block_here ?_
                        refine K_then ?_
                        refine J_seq ?_
                        refine J_imp (sep (Own 32 14 (.slice y137.1 (xn.z :: z.2.1).length y137.2) (xn.z :: z.2.1).length ((xn.z :: z.2.1).flatMap encPk)) (sep (cel b6 [.int .i64 q.id, .bool q.more, .int .i64 q.off, .int .i64 q.ttl, .int .i64 q.proto, .int .u8 q.s0, .int .u8 q.s1, .int .u8 q.s2, .int .u8 q.s3, .int .u8 q.d0, .int .u8 q.d1, .int .u8 q.d2, .int .u8 q.d3, .string q.data] 32) (sep (TabP tp 64 100 T2) (sep (old W) (F))))) ?_ ?_
                        · exact Ent.take
                        refine J_know (fun w hs => own_nonnil hs) fun hA2 => ?_
                        have hfin : sc xs (kyOf q) y.1 (y.1 + 1) = (xn.z :: z.2.1) := by rw [hz2, hn', sc_first hxn hus (by assumption)]; rfl
                        obtain ⟨hq1, hq2, hq3⟩ := hst2 (by simpa using h3)
                        rw [← hq1, hfin] at hq2 hq3
                        have hsm : ∀ x2 ∈ (xn.z :: z.2.1), x2.data.size ≤ 500 := fun x2 hx2 => by rw [← hfin] at hx2; obtain ⟨j, y2, hj, hy2, rfl, _⟩ := sc_mem _ x2 hx2; exact hst1.small j y2 (by omega) hy2
                        refine J_region ?_
                        refine L_v (opv_move rfl) rfl ?_
                        refine L_x rfl (opx_call0 (Join_any (Own 32 14 (.slice y137.1 (xn.z :: z.2.1).length y137.2) (xn.z :: z.2.1).length ((xn.z :: z.2.1).flatMap encPk)) y137.1 y137.2 (xn.z :: z.2.1) (RdS.own (m := 14) (e := 32) (c := y137.2) (xs := (xn.z :: z.2.1)) encPk_len (hA2.imp (fun g => List.eq_nil_of_length_eq_zero g.2.2.1) id)) (by rw [List.length_cons]; omega) (fun x2 hx2 => by have := hsm x2 hx2; omega)) rfl rfl rfl) (fun _ _ => ?_)
                        rw [hq2]
                        refine L_v (opv_move rfl) rfl ?_
                        first
                          | refine L_v (opv_extract (v := .agg [.int .i64 (joinC (xn.z :: z.2.1)).1.id, .bool (joinC (xn.z :: z.2.1)).1.more, .int .i64 (joinC (xn.z :: z.2.1)).1.off, .int .i64 (joinC (xn.z :: z.2.1)).1.ttl, .int .i64 (joinC (xn.z :: z.2.1)).1.proto, .int .u8 (joinC (xn.z :: z.2.1)).1.s0, .int .u8 (joinC (xn.z :: z.2.1)).1.s1, .int .u8 (joinC (xn.z :: z.2.1)).1.s2, .int .u8 (joinC (xn.z :: z.2.1)).1.s3, .int .u8 (joinC (xn.z :: z.2.1)).1.d0, .int .u8 (joinC (xn.z :: z.2.1)).1.d1, .int .u8 (joinC (xn.z :: z.2.1)).1.d2, .int .u8 (joinC (xn.z :: z.2.1)).1.d3, .string (joinC (xn.z :: z.2.1)).1.data].toArray) rfl rfl) rfl ?_
                          | refine L_v (opv_extract (v := .agg [.int .i64 (joinC z.2.1).1.id, .bool (joinC z.2.1).1.more, .int .i64 (joinC z.2.1).1.off, .int .i64 (joinC z.2.1).1.ttl, .int .i64 (joinC z.2.1).1.proto, .int .u8 (joinC z.2.1).1.s0, .int .u8 (joinC z.2.1).1.s1, .int .u8 (joinC z.2.1).1.s2, .int .u8 (joinC z.2.1).1.s3, .int .u8 (joinC z.2.1).1.d0, .int .u8 (joinC z.2.1).1.d1, .int .u8 (joinC z.2.1).1.d2, .int .u8 (joinC z.2.1).1.d3, .string (joinC z.2.1).1.data].toArray) rfl rfl) rfl ?_
                        refine L_v (opv_extract rfl rfl) rfl ?_
                        refine L_x rfl (opx_alloc rfl) (fun b12 _ => ?_)
                        refine L_x rfl (opx_store rfl rfl rfl (by simp [Value.oneCell'])) (fun _ _ => ?_)
                        refine L_v (opv_assign rfl) rfl ?_
                        refine L_nil ?_
                        refine K_then ?_
                        refine J_seq ?_
                        refine J_region ?_
                        refine L_v (opv_move rfl) rfl ?_
                        refine L_v ((opv_neq rfl rfl).bool_f (by decide)) rfl ?_
                        refine L_v (opv_move rfl) rfl ?_
                        refine L_gon rfl rfl rfl ?_
                        first
                          | refine L_v (opv_fieldAddr0 rfl) rfl ?_
                          | refine L_v (opv_fieldAddr rfl) rfl ?_
                        refine L_gon rfl rfl rfl ?_
                        refine L_v (opv_load rfl (Rd.look rfl)) rfl ?_
                        refine L_gon rfl rfl rfl ?_
                        first
                          | refine L_v (opv_fieldAddr0 rfl) rfl ?_
                          | refine L_v (opv_fieldAddr rfl) rfl ?_
                        refine L_gon rfl rfl rfl ?_
                        refine L_v (opv_load rfl (Rd.look rfl)) rfl ?_
                        refine L_gon rfl rfl rfl ?_
                        refine L_v ((opv_neqS rfl rfl).bool_f (fun n => n hq3)) rfl ?_
                        first
                          | refine L_v (opv_pick_tt rfl rfl) rfl ?_
                          | refine L_v (opv_pick_ff rfl rfl) rfl ?_
                          | refine L_v (opv_pick rfl rfl rfl) rfl ?_
                        refine L_nil ?_
                        refine K_then ?_
                        refine J_cond_false rfl ?_
                        refine J_skip ?_
                        refine K_block ?_
                        refine K_then ?_
                        refine J_region ?_
                        refine L_v (opv_move rfl) rfl ?_
                        first
                          | refine L_v (opv_add64 rfl rfl (by omega)) rfl ?_
                          | refine L_v (opv_addS rfl rfl (by omega)) rfl ?_
                          | refine L_v (opv_add rfl rfl) rfl ?_
                        refine L_v (opv_assign rfl) rfl ?_
                        refine L_nil ?_
                        exact K_loop ((y.1 + 1, T2)) ⟨by dsimp only; omega, hst1⟩ (by dsimp only; omega) ⟨rfl, rfl, rfl, trivial⟩ Ent.take
                      · refine J_skip ?_
                        refine K_block ?_
                        refine K_then ?_
                        refine J_region ?_
                        refine L_v (opv_move rfl) rfl ?_
                        refine L_v ((opv_sub64 rfl rfl (by omega)).as (v' := .int .i64 ((n' : Int) - 1)) (congrArg (Value.int .i64) (by omega))) rfl ?_
                        refine L_v (opv_assign rfl) rfl ?_
                        refine L_nil ?_
                        have hsk := sc_next hxn hus (by assumption)
                        exact K_loop ((n', xn.z :: z.2.1, y137)) ⟨by dsimp only; omega, by dsimp only; rw [hz2, hn', hsk, List.append_assoc]; rfl, by dsimp only; rw [List.length_cons]; omega⟩ (by dsimp only; omega) ⟨rfl, rfl, rfl, rfl, rfl, rfl, trivial⟩ Ent.take
                  · refine Q_gt_off h9 rfl rfl ?_ (fun _ h => by cases h; rfl)
                    refine Q_gt_off h9 rfl rfl ?_ (fun _ h => by cases h; rfl)
                    refine Q_gt_off h9 rfl rfl ?_ (fun _ h => by cases h; rfl)
                    refine Q_gt_off h9 rfl rfl ?_ (fun _ h => by cases h; rfl)
                    refine Q_gt_off h9 rfl rfl ?_ (fun _ h => by cases h; rfl)
                    refine Q_gf_on h8 rfl rfl ?_
                    refine Q_v (opv_pick_f rfl h9 rfl) rfl ?_
                    refine Q_gf_on h8 rfl rfl ?_
                    refine Q_v (opv_move rfl) rfl ?_
                    refine Q_gskip rfl rfl rfl ?_ (fun _ h => by cases h; rfl)
                    refine Q_gskip rfl rfl rfl ?_ (fun _ h => by cases h; rfl)
                    refine Q_gskip rfl rfl rfl ?_ (fun _ h => by cases h; rfl)
                    refine Q_gf_on h8 rfl rfl ?_
                    first
                      | refine Q_v (opv_pick_tt rfl rfl) rfl ?_
                      | refine Q_v (opv_pick_ff rfl rfl) rfl ?_
                      | refine Q_v (opv_pick rfl rfl rfl) rfl ?_
                    refine Q_v (opv_pick_f rfl h8 rfl) rfl ?_
                    refine QL_nil ?_
                    refine K_then ?_
                    refine J_cond_false rfl ?_
                    have hus : useB (kyOf q) y.1 n' xn := ⟨ky_all (by assumption) (by assumption) (by assumption) (by assumption), fun g => by first | exact absurd g.1 (by assumption) | exact absurd g.2.1 (by assumption) | (have := g.2.2; omega)⟩
                    refine J_skip ?_
                    refine K_then ?_
                    refine J_seq ?_
                    refine J_region ?_
                    refine L_v (opv_move rfl) rfl ?_
                    refine L_v ((opv_move rfl).as (v' := .int .i64 ((n' : Nat) : Int)) (congrArg (Value.int .i64) (by omega))) rfl ?_
                    first
                      | refine L_v (opv_indexAddr rfl rfl (by omega)) rfl ?_
                      | refine L_v (opv_indexAddrA rfl rfl (by omega)) rfl ?_
                    refine L_v (opv_loadN (vs := [.int .i64 xn.id, .bool xn.more, .int .i64 xn.off, .int .i64 xn.ttl, .int .i64 xn.proto, .int .u8 xn.s0, .int .u8 xn.s1, .int .u8 xn.s2, .int .u8 xn.s3, .int .u8 xn.d0, .int .u8 xn.d1, .int .u8 xn.d2, .int .u8 xn.d3, .string xn.data]) rfl rfl (fun j u hj => Rd.of_take (S := old W) (hR.rd b o rfl n' xn j u hxn hj))) rfl ?_
                    refine L_x rfl (opx_alloc rfl) (fun b11 _ => ?_)
                    refine L_x rfl (opx_store rfl rfl rfl (by simp [Value.oneCell'])) (fun _ _ => ?_)
                    refine L_nil ?_
                    refine K_then ?_
                    refine J_seq ?_
                    refine J_region ?_
                    first
                      | refine L_v (opv_fieldAddr0 rfl) rfl ?_
                      | refine L_v (opv_fieldAddr rfl) rfl ?_
                    refine L_x rfl (opx_store rfl rfl rfl (by simp [Value.oneCell'])) (fun _ _ => ?_)
                    refine L_nil ?_
                    refine K_then ?_
                    refine J_seq ?_
                    refine J_region ?_
                    refine L_v (opv_loadS rfl) rfl ?_
                    refine L_x rfl (opx_buildSlice1 (m := 14) rfl rfl (by omega) (by omega) rfl) (fun b135 _ => ?_)
                    refine L_v (opv_move rfl) rfl ?_
                    refine L_imp (sep (Own 32 14 (.slice (some (ad b135 0)) 1 1) 1 [.int .i64 xn.id, .bool xn.more, .int .i64 xn.off, .int .i64 0, .int .i64 xn.proto, .int .u8 xn.s0, .int .u8 xn.s1, .int .u8 xn.s2, .int .u8 xn.s3, .int .u8 xn.d0, .int .u8 xn.d1, .int .u8 xn.d2, .int .u8 xn.d3, .string xn.data]) (sep (Own 32 14 (.slice z.2.2.1 z.2.1.length z.2.2.2) z.2.1.length (z.2.1.flatMap encPk)) (sep (cel b6 [.int .i64 q.id, .bool q.more, .int .i64 q.off, .int .i64 q.ttl, .int .i64 q.proto, .int .u8 q.s0, .int .u8 q.s1, .int .u8 q.s2, .int .u8 q.s3, .int .u8 q.d0, .int .u8 q.d1, .int .u8 q.d2, .int .u8 q.d3, .string q.data] 32) (sep (TabP tp 64 100 T2) (sep (old W) (F)))))) (Ent.trans Ent.take ((Own.lit (e := 32) (m := 14) (len := 1) (b := b135) (l := [.int .i64 xn.id, .bool xn.more, .int .i64 xn.off, .int .i64 0, .int .i64 xn.proto, .int .u8 xn.s0, .int .u8 xn.s1, .int .u8 xn.s2, .int .u8 xn.s3, .int .u8 xn.d0, .int .u8 xn.d1, .int .u8 xn.d2, .int .u8 xn.d3, .string xn.data]) rfl (by decide)).frame _)) ?_
                    refine L_x rfl (opx_append (m := 14) (B := 64) rfl rfl (Src.ownA (e := 32) (m := 14) (len := z.2.1.length) (l := z.2.1.flatMap encPk) hA) rfl (by omega) (flat_len encPk_len _) (flatPk_one _) (by unfold maxLen; omega) (by omega) rfl) (fun y137 _ => ?_)
                    rw [show 1 + z.2.1.length = (xn.z :: z.2.1).length by rw [List.length_cons]; omega, encPk_z xn z.2.1]
                    refine L_v (opv_assign rfl) rfl ?_
                    refine L_nil ?_
                    refine K_then ?_
                    refine J_seq ?_
                    refine J_region ?_
                    refine L_v (opv_move rfl) rfl ?_
                    refine L_v ((opv_move rfl).as (v' := .int .i64 ((n' : Nat) : Int)) (congrArg (Value.int .i64) (by omega))) rfl ?_
                    first
                      | refine L_v (opv_indexAddr rfl rfl (by omega)) rfl ?_
                      | refine L_v (opv_indexAddrA rfl rfl (by omega)) rfl ?_
                    first
                      | refine L_v (opv_fieldAddr0 rfl) rfl ?_
                      | refine L_v (opv_fieldAddr rfl) rfl ?_
                    refine L_v (opv_load rfl (Rd.of_take (S := old W) (hR.rd b o rfl n' xn 2 _ hxn rfl))) rfl ?_
                    first
                      | refine L_v (opv_eql rfl rfl) rfl ?_
                      | refine L_v (opv_eqlS rfl rfl) rfl ?_
                      | refine L_v (opv_eqlNil rfl rfl) rfl ?_
                      | refine L_v (opv_eqlB rfl rfl) rfl ?_
                    refine L_nil ?_
                    refine K_then ?_
                    refine J_cond rfl (fun h14 => ?_) (fun h14 => ?_)
                    · refine J_exit ?_
                      refine K_block_on rfl ?_
                      refine K_then_exit ?_
                      refine K_then_exit ?_
                      refine K_block_here ?_
                      refine K_then ?_
                      refine J_seq ?_
                      refine J_imp (sep (Own 32 14 (.slice y137.1 (xn.z :: z.2.1).length y137.2) (xn.z :: z.2.1).length ((xn.z :: z.2.1).flatMap encPk)) (sep (cel b6 [.int .i64 q.id, .bool q.more, .int .i64 q.off, .int .i64 q.ttl, .int .i64 q.proto, .int .u8 q.s0, .int .u8 q.s1, .int .u8 q.s2, .int .u8 q.s3, .int .u8 q.d0, .int .u8 q.d1, .int .u8 q.d2, .int .u8 q.d3, .string q.data] 32) (sep (TabP tp 64 100 T2) (sep (old W) (F))))) ?_ ?_
                      · exact Ent.take
                      refine J_know (fun w hs => own_nonnil hs) fun hA2 => ?_
                      have hfin : sc xs (kyOf q) y.1 (y.1 + 1) = (xn.z :: z.2.1) := by rw [hz2, hn', sc_first hxn hus (by assumption)]; rfl
                      obtain ⟨hq1, hq2, hq3⟩ := hst2 (by simpa using h3)
                      rw [← hq1, hfin] at hq2 hq3
                      have hsm : ∀ x2 ∈ (xn.z :: z.2.1), x2.data.size ≤ 500 := fun x2 hx2 => by rw [← hfin] at hx2; obtain ⟨j, y2, hj, hy2, rfl, _⟩ := sc_mem _ x2 hx2; exact hst1.small j y2 (by omega) hy2
                      refine J_region ?_
                      refine L_v (opv_move rfl) rfl ?_
                      refine L_x rfl (opx_call0 (Join_any (Own 32 14 (.slice y137.1 (xn.z :: z.2.1).length y137.2) (xn.z :: z.2.1).length ((xn.z :: z.2.1).flatMap encPk)) y137.1 y137.2 (xn.z :: z.2.1) (RdS.own (m := 14) (e := 32) (c := y137.2) (xs := (xn.z :: z.2.1)) encPk_len (hA2.imp (fun g => List.eq_nil_of_length_eq_zero g.2.2.1) id)) (by rw [List.length_cons]; omega) (fun x2 hx2 => by have := hsm x2 hx2; omega)) rfl rfl rfl) (fun _ _ => ?_)
                      rw [hq2]
                      refine L_v (opv_move rfl) rfl ?_
                      first
                        | refine L_v (opv_extract (v := .agg [.int .i64 (joinC (xn.z :: z.2.1)).1.id, .bool (joinC (xn.z :: z.2.1)).1.more, .int .i64 (joinC (xn.z :: z.2.1)).1.off, .int .i64 (joinC (xn.z :: z.2.1)).1.ttl, .int .i64 (joinC (xn.z :: z.2.1)).1.proto, .int .u8 (joinC (xn.z :: z.2.1)).1.s0, .int .u8 (joinC (xn.z :: z.2.1)).1.s1, .int .u8 (joinC (xn.z :: z.2.1)).1.s2, .int .u8 (joinC (xn.z :: z.2.1)).1.s3, .int .u8 (joinC (xn.z :: z.2.1)).1.d0, .int .u8 (joinC (xn.z :: z.2.1)).1.d1, .int .u8 (joinC (xn.z :: z.2.1)).1.d2, .int .u8 (joinC (xn.z :: z.2.1)).1.d3, .string (joinC (xn.z :: z.2.1)).1.data].toArray) rfl rfl) rfl ?_
                        | refine L_v (opv_extract (v := .agg [.int .i64 (joinC z.2.1).1.id, .bool (joinC z.2.1).1.more, .int .i64 (joinC z.2.1).1.off, .int .i64 (joinC z.2.1).1.ttl, .int .i64 (joinC z.2.1).1.proto, .int .u8 (joinC z.2.1).1.s0, .int .u8 (joinC z.2.1).1.s1, .int .u8 (joinC z.2.1).1.s2, .int .u8 (joinC z.2.1).1.s3, .int .u8 (joinC z.2.1).1.d0, .int .u8 (joinC z.2.1).1.d1, .int .u8 (joinC z.2.1).1.d2, .int .u8 (joinC z.2.1).1.d3, .string (joinC z.2.1).1.data].toArray) rfl rfl) rfl ?_
                      refine L_v (opv_extract rfl rfl) rfl ?_
                      refine L_x rfl (opx_alloc rfl) (fun b12 _ => ?_)
                      refine L_x rfl (opx_store rfl rfl rfl (by simp [Value.oneCell'])) (fun _ _ => ?_)
                      refine L_v (opv_assign rfl) rfl ?_
                      refine L_nil ?_
                      refine K_then ?_
                      refine J_seq ?_
                      refine J_region ?_
                      refine L_v (opv_move rfl) rfl ?_
                      refine L_v ((opv_neq rfl rfl).bool_f (by decide)) rfl ?_
                      refine L_v (opv_move rfl) rfl ?_
                      refine L_gon rfl rfl rfl ?_
                      first
                        | refine L_v (opv_fieldAddr0 rfl) rfl ?_
                        | refine L_v (opv_fieldAddr rfl) rfl ?_
                      refine L_gon rfl rfl rfl ?_
                      refine L_v (opv_load rfl (Rd.look rfl)) rfl ?_
                      refine L_gon rfl rfl rfl ?_
                      first
                        | refine L_v (opv_fieldAddr0 rfl) rfl ?_
                        | refine L_v (opv_fieldAddr rfl) rfl ?_
                      refine L_gon rfl rfl rfl ?_
                      refine L_v (opv_load rfl (Rd.look rfl)) rfl ?_
                      refine L_gon rfl rfl rfl ?_
                      refine L_v ((opv_neqS rfl rfl).bool_f (fun n => n hq3)) rfl ?_
                      first
                        | refine L_v (opv_pick_tt rfl rfl) rfl ?_
                        | refine L_v (opv_pick_ff rfl rfl) rfl ?_
                        | refine L_v (opv_pick rfl rfl rfl) rfl ?_
                      refine L_nil ?_
                      refine K_then ?_
                      refine J_cond_false rfl ?_
                      refine J_skip ?_
                      refine K_block ?_
                      refine K_then ?_
                      refine J_region ?_
                      refine L_v (opv_move rfl) rfl ?_
                      first
                        | refine L_v (opv_add64 rfl rfl (by omega)) rfl ?_
                        | refine L_v (opv_addS rfl rfl (by omega)) rfl ?_
                        | refine L_v (opv_add rfl rfl) rfl ?_
                      refine L_v (opv_assign rfl) rfl ?_
                      refine L_nil ?_
                      exact K_loop ((y.1 + 1, T2)) ⟨by dsimp only; omega, hst1⟩ (by dsimp only; omega) ⟨rfl, rfl, rfl, trivial⟩ Ent.take
                    · refine J_skip ?_
                      refine K_block ?_
                      refine K_then ?_
                      refine J_region ?_
                      refine L_v (opv_move rfl) rfl ?_
                      refine L_v ((opv_sub64 rfl rfl (by omega)).as (v' := .int .i64 ((n' : Int) - 1)) (congrArg (Value.int .i64) (by omega))) rfl ?_
                      refine L_v (opv_assign rfl) rfl ?_
                      refine L_nil ?_
                      have hsk := sc_next hxn hus (by assumption)
                      exact K_loop ((n', xn.z :: z.2.1, y137)) ⟨by dsimp only; omega, by dsimp only; rw [hz2, hn', hsk, List.append_assoc]; rfl, by dsimp only; rw [List.length_cons]; omega⟩ (by dsimp only; omega) ⟨rfl, rfl, rfl, rfl, rfl, rfl, trivial⟩ Ent.take
                · refine Q_gf_off h8 rfl rfl ?_ (fun _ h => by cases h; rfl)
                  refine Q_gf_off h8 rfl rfl ?_ (fun _ h => by cases h; rfl)
                  refine Q_gf_off h8 rfl rfl ?_ (fun _ h => by cases h; rfl)
                  refine Q_gf_off h8 rfl rfl ?_ (fun _ h => by cases h; rfl)
                  refine Q_gf_off h8 rfl rfl ?_ (fun _ h => by cases h; rfl)
                  refine Q_gf_offU h8 rfl rfl rfl ?_
                  refine Q_gU rfl rfl rfl ?_
                  refine Q_gU rfl rfl rfl ?_
                  refine Q_gU rfl rfl rfl ?_
                  refine Q_gU rfl rfl rfl ?_
                  refine Q_gU rfl rfl rfl ?_
                  refine Q_gU rfl rfl rfl ?_
                  refine Q_gf_off h8 rfl rfl ?_ (fun _ h => by cases h; rfl)
                  refine Q_gf_offU h8 rfl rfl rfl ?_
                  refine Q_gU rfl rfl rfl ?_
                  refine Q_gU rfl rfl rfl ?_
                  refine Q_gU rfl rfl rfl ?_
                  refine Q_gf_off h8 rfl rfl ?_ (fun _ h => by cases h; rfl)
                  refine Q_v (opv_pick_t rfl h8 rfl) rfl ?_
                  refine QL_nil ?_
                  refine K_then ?_
                  refine J_cond_true rfl ?_
                  refine J_exit ?_
                  refine K_then_exit ?_
                  refine K_block_here ?_
                  refine K_then ?_
                  refine J_region ?_
                  refine L_v (opv_move rfl) rfl ?_
                  refine L_v ((opv_sub64 rfl rfl (by omega)).as (v' := .int .i64 ((n' : Int) - 1)) (congrArg (Value.int .i64) (by omega))) rfl ?_
                  refine L_v (opv_assign rfl) rfl ?_
                  refine L_nil ?_
                  have hnu : ¬ useB (kyOf q) y.1 n' xn := by first | exact no_s (by assumption) | exact no_d (by assumption) | exact no_p (by assumption) | exact no_i (by assumption) | exact fun g => g.2 ⟨by assumption, by assumption, by omega⟩
                  have hsk := sc_skip hxn hnu
                  exact K_loop ((n', z.2.1, z.2.2)) ⟨by dsimp only; omega, by dsimp only; rw [← hsk, ← hn']; exact hz2, by dsimp only; omega⟩ (by dsimp only; omega) ⟨rfl, rfl, rfl, rfl, rfl, rfl, trivial⟩ Ent.take
              · refine Q_gf_off h7 rfl rfl ?_ (fun _ h => by cases h; rfl)
                refine Q_gf_off h7 rfl rfl ?_ (fun _ h => by cases h; rfl)
                refine Q_gf_off h7 rfl rfl ?_ (fun _ h => by cases h; rfl)
                refine Q_gf_off h7 rfl rfl ?_ (fun _ h => by cases h; rfl)
                refine Q_gf_off h7 rfl rfl ?_ (fun _ h => by cases h; rfl)
                refine Q_gf_off h7 rfl rfl ?_ (fun _ h => by cases h; rfl)
                refine Q_gf_off h7 rfl rfl ?_ (fun _ h => by cases h; rfl)
                refine Q_v (opv_pick_t rfl h7 rfl) rfl ?_
                refine Q_v (opv_move rfl) rfl ?_
                refine Q_gskip rfl rfl rfl ?_ (fun _ h => by cases h; rfl)
                refine Q_gskip rfl rfl rfl ?_ (fun _ h => by cases h; rfl)
                refine Q_gskip rfl rfl rfl ?_ (fun _ h => by cases h; rfl)
                refine Q_gskip rfl rfl rfl ?_ (fun _ h => by cases h; rfl)
                refine Q_gskip rfl rfl rfl ?_ (fun _ h => by cases h; rfl)
                refine Q_gskip rfl rfl rfl ?_ (fun _ h => by cases h; rfl)
                refine Q_gskipU rfl rfl rfl rfl ?_
                refine Q_gU rfl rfl rfl ?_
                refine Q_gU rfl rfl rfl ?_
                refine Q_gU rfl rfl rfl ?_
                refine Q_gU rfl rfl rfl ?_
                refine Q_gU rfl rfl rfl ?_
                refine Q_gU rfl rfl rfl ?_
                refine Q_gskip rfl rfl rfl ?_ (fun _ h => by cases h; rfl)
                refine Q_gskipU rfl rfl rfl rfl ?_
                refine Q_gU rfl rfl rfl ?_
                refine Q_gU rfl rfl rfl ?_
                refine Q_gU rfl rfl rfl ?_
                refine Q_gskip rfl rfl rfl ?_ (fun _ h => by cases h; rfl)
                first
                  | refine Q_v (opv_pick_tt rfl rfl) rfl ?_
                  | refine Q_v (opv_pick_ff rfl rfl) rfl ?_
                  | refine Q_v (opv_pick rfl rfl rfl) rfl ?_
                refine QL_nil ?_
                refine K_then ?_
                refine J_cond_true rfl ?_
                refine J_exit ?_
                refine K_then_exit ?_
                refine K_block_here ?_
                refine K_then ?_
                refine J_region ?_
                refine L_v (opv_move rfl) rfl ?_
                refine L_v ((opv_sub64 rfl rfl (by omega)).as (v' := .int .i64 ((n' : Int) - 1)) (congrArg (Value.int .i64) (by omega))) rfl ?_
                refine L_v (opv_assign rfl) rfl ?_
                refine L_nil ?_
                have hnu : ¬ useB (kyOf q) y.1 n' xn := by first | exact no_s (by assumption) | exact no_d (by assumption) | exact no_p (by assumption) | exact no_i (by assumption) | exact fun g => g.2 ⟨by assumption, by assumption, by omega⟩
                have hsk := sc_skip hxn hnu
                exact K_loop ((n', z.2.1, z.2.2)) ⟨by dsimp only; omega, by dsimp only; rw [← hsk, ← hn']; exact hz2, by dsimp only; omega⟩ (by dsimp only; omega) ⟨rfl, rfl, rfl, rfl, rfl, rfl, trivial⟩ Ent.take
            · refine Q_gf_off h6 rfl rfl ?_ (fun _ h => by cases h; rfl)
              refine Q_gf_off h6 rfl rfl ?_ (fun _ h => by cases h; rfl)
              refine Q_gf_off h6 rfl rfl ?_ (fun _ h => by cases h; rfl)
              refine Q_gf_off h6 rfl rfl ?_ (fun _ h => by cases h; rfl)
              refine Q_gf_off h6 rfl rfl ?_ (fun _ h => by cases h; rfl)
              refine Q_gf_off h6 rfl rfl ?_ (fun _ h => by cases h; rfl)
              refine Q_gf_off h6 rfl rfl ?_ (fun _ h => by cases h; rfl)
              refine Q_v (opv_pick_t rfl h6 rfl) rfl ?_
              refine Q_v (opv_move rfl) rfl ?_
              refine Q_gskip rfl rfl rfl ?_ (fun _ h => by cases h; rfl)
              refine Q_gskip rfl rfl rfl ?_ (fun _ h => by cases h; rfl)
              refine Q_gskip rfl rfl rfl ?_ (fun _ h => by cases h; rfl)
              refine Q_gskip rfl rfl rfl ?_ (fun _ h => by cases h; rfl)
              refine Q_gskip rfl rfl rfl ?_ (fun _ h => by cases h; rfl)
              refine Q_gskip rfl rfl rfl ?_ (fun _ h => by cases h; rfl)
              refine Q_gskip rfl rfl rfl ?_ (fun _ h => by cases h; rfl)
              refine Q_gskip rfl rfl rfl ?_ (fun _ h => by cases h; rfl)
              first
                | refine Q_v (opv_pick_tt rfl rfl) rfl ?_
                | refine Q_v (opv_pick_ff rfl rfl) rfl ?_
                | refine Q_v (opv_pick rfl rfl rfl) rfl ?_
              refine Q_v (opv_move rfl) rfl ?_
              refine Q_gskip rfl rfl rfl ?_ (fun _ h => by cases h; rfl)
              refine Q_gskip rfl rfl rfl ?_ (fun _ h => by cases h; rfl)
              refine Q_gskip rfl rfl rfl ?_ (fun _ h => by cases h; rfl)
              refine Q_gskip rfl rfl rfl ?_ (fun _ h => by cases h; rfl)
              refine Q_gskip rfl rfl rfl ?_ (fun _ h => by cases h; rfl)
              refine Q_gskip rfl rfl rfl ?_ (fun _ h => by cases h; rfl)
              refine Q_gskipU rfl rfl rfl rfl ?_
              refine Q_gU rfl rfl rfl ?_
              refine Q_gU rfl rfl rfl ?_
              refine Q_gU rfl rfl rfl ?_
              refine Q_gU rfl rfl rfl ?_
              refine Q_gU rfl rfl rfl ?_
              refine Q_gU rfl rfl rfl ?_
              refine Q_gskip rfl rfl rfl ?_ (fun _ h => by cases h; rfl)
              refine Q_gskipU rfl rfl rfl rfl ?_
              refine Q_gU rfl rfl rfl ?_
              refine Q_gU rfl rfl rfl ?_
              refine Q_gU rfl rfl rfl ?_
              refine Q_gskip rfl rfl rfl ?_ (fun _ h => by cases h; rfl)
              first
                | refine Q_v (opv_pick_tt rfl rfl) rfl ?_
                | refine Q_v (opv_pick_ff rfl rfl) rfl ?_
                | refine Q_v (opv_pick rfl rfl rfl) rfl ?_
              refine QL_nil ?_
              refine K_then ?_
              refine J_cond_true rfl ?_
              refine J_exit ?_
              refine K_then_exit ?_
              refine K_block_here ?_
              refine K_then ?_
              refine J_region ?_
              refine L_v (opv_move rfl) rfl ?_
              refine L_v ((opv_sub64 rfl rfl (by omega)).as (v' := .int .i64 ((n' : Int) - 1)) (congrArg (Value.int .i64) (by omega))) rfl ?_
              refine L_v (opv_assign rfl) rfl ?_
              refine L_nil ?_
              have hnu : ¬ useB (kyOf q) y.1 n' xn := by first | exact no_s (by assumption) | exact no_d (by assumption) | exact no_p (by assumption) | exact no_i (by assumption) | exact fun g => g.2 ⟨by assumption, by assumption, by omega⟩
              have hsk := sc_skip hxn hnu
              exact K_loop ((n', z.2.1, z.2.2)) ⟨by dsimp only; omega, by dsimp only; rw [← hsk, ← hn']; exact hz2, by dsimp only; omega⟩ (by dsimp only; omega) ⟨rfl, rfl, rfl, rfl, rfl, rfl, trivial⟩ Ent.take
          · refine Q_gf_off h5 rfl rfl ?_ (fun _ h => by cases h; rfl)
            refine Q_gf_off h5 rfl rfl ?_ (fun _ h => by cases h; rfl)
            refine Q_gf_off h5 rfl rfl ?_ (fun _ h => by cases h; rfl)
            refine Q_gf_off h5 rfl rfl ?_ (fun _ h => by cases h; rfl)
            refine Q_gf_off h5 rfl rfl ?_ (fun _ h => by cases h; rfl)
            refine Q_gf_off h5 rfl rfl ?_ (fun _ h => by cases h; rfl)
            refine Q_gf_off h5 rfl rfl ?_ (fun _ h => by cases h; rfl)
            refine Q_v (opv_pick_t rfl h5 rfl) rfl ?_
            refine Q_v (opv_move rfl) rfl ?_
            refine Q_gskip rfl rfl rfl ?_ (fun _ h => by cases h; rfl)
            refine Q_gskip rfl rfl rfl ?_ (fun _ h => by cases h; rfl)
            refine Q_gskip rfl rfl rfl ?_ (fun _ h => by cases h; rfl)
            refine Q_gskip rfl rfl rfl ?_ (fun _ h => by cases h; rfl)
            refine Q_gskip rfl rfl rfl ?_ (fun _ h => by cases h; rfl)
            refine Q_gskip rfl rfl rfl ?_ (fun _ h => by cases h; rfl)
            refine Q_gskip rfl rfl rfl ?_ (fun _ h => by cases h; rfl)
            refine Q_gskip rfl rfl rfl ?_ (fun _ h => by cases h; rfl)
            first
              | refine Q_v (opv_pick_tt rfl rfl) rfl ?_
              | refine Q_v (opv_pick_ff rfl rfl) rfl ?_
              | refine Q_v (opv_pick rfl rfl rfl) rfl ?_
            refine Q_v (opv_move rfl) rfl ?_
            refine Q_gskip rfl rfl rfl ?_ (fun _ h => by cases h; rfl)
            refine Q_gskip rfl rfl rfl ?_ (fun _ h => by cases h; rfl)
            refine Q_gskip rfl rfl rfl ?_ (fun _ h => by cases h; rfl)
            refine Q_gskip rfl rfl rfl ?_ (fun _ h => by cases h; rfl)
            refine Q_gskip rfl rfl rfl ?_ (fun _ h => by cases h; rfl)
            refine Q_gskip rfl rfl rfl ?_ (fun _ h => by cases h; rfl)
            refine Q_gskip rfl rfl rfl ?_ (fun _ h => by cases h; rfl)
            refine Q_gskip rfl rfl rfl ?_ (fun _ h => by cases h; rfl)
            first
              | refine Q_v (opv_pick_tt rfl rfl) rfl ?_
              | refine Q_v (opv_pick_ff rfl rfl) rfl ?_
              | refine Q_v (opv_pick rfl rfl rfl) rfl ?_
            refine Q_v (opv_move rfl) rfl ?_
            refine Q_gskip rfl rfl rfl ?_ (fun _ h => by cases h; rfl)
            refine Q_gskip rfl rfl rfl ?_ (fun _ h => by cases h; rfl)
            refine Q_gskip rfl rfl rfl ?_ (fun _ h => by cases h; rfl)
            refine Q_gskip rfl rfl rfl ?_ (fun _ h => by cases h; rfl)
            refine Q_gskip rfl rfl rfl ?_ (fun _ h => by cases h; rfl)
            refine Q_gskip rfl rfl rfl ?_ (fun _ h => by cases h; rfl)
            refine Q_gskipU rfl rfl rfl rfl ?_
            refine Q_gU rfl rfl rfl ?_
            refine Q_gU rfl rfl rfl ?_
            refine Q_gU rfl rfl rfl ?_
            refine Q_gU rfl rfl rfl ?_
            refine Q_gU rfl rfl rfl ?_
            refine Q_gU rfl rfl rfl ?_
            refine Q_gskip rfl rfl rfl ?_ (fun _ h => by cases h; rfl)
            refine Q_gskipU rfl rfl rfl rfl ?_
            refine Q_gU rfl rfl rfl ?_
            refine Q_gU rfl rfl rfl ?_
            refine Q_gU rfl rfl rfl ?_
            refine Q_gskip rfl rfl rfl ?_ (fun _ h => by cases h; rfl)
            first
              | refine Q_v (opv_pick_tt rfl rfl) rfl ?_
              | refine Q_v (opv_pick_ff rfl rfl) rfl ?_
              | refine Q_v (opv_pick rfl rfl rfl) rfl ?_
            refine QL_nil ?_
            refine K_then ?_
            refine J_cond_true rfl ?_
            refine J_exit ?_
            refine K_then_exit ?_
            refine K_block_here ?_
            refine K_then ?_
            refine J_region ?_
            refine L_v (opv_move rfl) rfl ?_
            refine L_v ((opv_sub64 rfl rfl (by omega)).as (v' := .int .i64 ((n' : Int) - 1)) (congrArg (Value.int .i64) (by omega))) rfl ?_
            refine L_v (opv_assign rfl) rfl ?_
            refine L_nil ?_
            have hnu : ¬ useB (kyOf q) y.1 n' xn := by first | exact no_s (by assumption) | exact no_d (by assumption) | exact no_p (by assumption) | exact no_i (by assumption) | exact fun g => g.2 ⟨by assumption, by assumption, by omega⟩
            have hsk := sc_skip hxn hnu
            exact K_loop ((n', z.2.1, z.2.2)) ⟨by dsimp only; omega, by dsimp only; rw [← hsk, ← hn']; exact hz2, by dsimp only; omega⟩ (by dsimp only; omega) ⟨rfl, rfl, rfl, rfl, rfl, rfl, trivial⟩ Ent.take
        · refine J_exit ?_
          refine K_then_exit ?_
          refine K_then_exit ?_
          refine K_block_here ?_
          refine K_then ?_
          refine J_seq ?_
          refine J_imp (sep (Own 32 14 (.slice z.2.2.1 z.2.1.length z.2.2.2) z.2.1.length (z.2.1.flatMap encPk)) (sep (cel b6 [.int .i64 q.id, .bool q.more, .int .i64 q.off, .int .i64 q.ttl, .int .i64 q.proto, .int .u8 q.s0, .int .u8 q.s1, .int .u8 q.s2, .int .u8 q.s3, .int .u8 q.d0, .int .u8 q.d1, .int .u8 q.d2, .int .u8 q.d3, .string q.data] 32) (sep (TabP tp 64 100 T2) (sep (old W) (F))))) ?_ ?_
          · exact Ent.take
          refine J_know (fun w hs => own_nonnil hs) fun hA2 => ?_
          have hfin : sc xs (kyOf q) y.1 (y.1 + 1) = z.2.1 := by rw [hz2, show z.1 = 0 by omega]; rfl
          obtain ⟨hq1, hq2, hq3⟩ := hst2 (by simpa using h3)
          rw [← hq1, hfin] at hq2 hq3
          have hsm : ∀ x2 ∈ z.2.1, x2.data.size ≤ 500 := fun x2 hx2 => by rw [← hfin] at hx2; obtain ⟨j, y2, hj, hy2, rfl, _⟩ := sc_mem _ x2 hx2; exact hst1.small j y2 (by omega) hy2
          refine J_region ?_
          refine L_v (opv_move rfl) rfl ?_
          refine L_x rfl (opx_call0 (Join_any (Own 32 14 (.slice z.2.2.1 z.2.1.length z.2.2.2) z.2.1.length (z.2.1.flatMap encPk)) z.2.2.1 z.2.2.2 z.2.1 (RdS.own (m := 14) (e := 32) (c := z.2.2.2) (xs := z.2.1) encPk_len (hA2.imp (fun g => List.eq_nil_of_length_eq_zero g.2.2.1) id)) (by omega) (fun x2 hx2 => by have := hsm x2 hx2; omega)) rfl rfl rfl) (fun _ _ => ?_)
          rw [hq2]
          refine L_v (opv_move rfl) rfl ?_
          first
            | refine L_v (opv_extract (v := .agg [.int .i64 (joinC (xn.z :: z.2.1)).1.id, .bool (joinC (xn.z :: z.2.1)).1.more, .int .i64 (joinC (xn.z :: z.2.1)).1.off, .int .i64 (joinC (xn.z :: z.2.1)).1.ttl, .int .i64 (joinC (xn.z :: z.2.1)).1.proto, .int .u8 (joinC (xn.z :: z.2.1)).1.s0, .int .u8 (joinC (xn.z :: z.2.1)).1.s1, .int .u8 (joinC (xn.z :: z.2.1)).1.s2, .int .u8 (joinC (xn.z :: z.2.1)).1.s3, .int .u8 (joinC (xn.z :: z.2.1)).1.d0, .int .u8 (joinC (xn.z :: z.2.1)).1.d1, .int .u8 (joinC (xn.z :: z.2.1)).1.d2, .int .u8 (joinC (xn.z :: z.2.1)).1.d3, .string (joinC (xn.z :: z.2.1)).1.data].toArray) rfl rfl) rfl ?_
            | refine L_v (opv_extract (v := .agg [.int .i64 (joinC z.2.1).1.id, .bool (joinC z.2.1).1.more, .int .i64 (joinC z.2.1).1.off, .int .i64 (joinC z.2.1).1.ttl, .int .i64 (joinC z.2.1).1.proto, .int .u8 (joinC z.2.1).1.s0, .int .u8 (joinC z.2.1).1.s1, .int .u8 (joinC z.2.1).1.s2, .int .u8 (joinC z.2.1).1.s3, .int .u8 (joinC z.2.1).1.d0, .int .u8 (joinC z.2.1).1.d1, .int .u8 (joinC z.2.1).1.d2, .int .u8 (joinC z.2.1).1.d3, .string (joinC z.2.1).1.data].toArray) rfl rfl) rfl ?_
          refine L_v (opv_extract rfl rfl) rfl ?_
          refine L_x rfl (opx_alloc rfl) (fun b12 _ => ?_)
          refine L_x rfl (opx_store rfl rfl rfl (by simp [Value.oneCell'])) (fun _ _ => ?_)
          refine L_v (opv_assign rfl) rfl ?_
          refine L_nil ?_
          refine K_then ?_
          refine J_seq ?_
          refine J_region ?_
          refine L_v (opv_move rfl) rfl ?_
          refine L_v ((opv_neq rfl rfl).bool_f (by decide)) rfl ?_
          refine L_v (opv_move rfl) rfl ?_
          refine L_gon rfl rfl rfl ?_
          first
            | refine L_v (opv_fieldAddr0 rfl) rfl ?_
            | refine L_v (opv_fieldAddr rfl) rfl ?_
          refine L_gon rfl rfl rfl ?_
          refine L_v (opv_load rfl (Rd.look rfl)) rfl ?_
          refine L_gon rfl rfl rfl ?_
          first
            | refine L_v (opv_fieldAddr0 rfl) rfl ?_
            | refine L_v (opv_fieldAddr rfl) rfl ?_
          refine L_gon rfl rfl rfl ?_
          refine L_v (opv_load rfl (Rd.look rfl)) rfl ?_
          refine L_gon rfl rfl rfl ?_
          refine L_v ((opv_neqS rfl rfl).bool_f (fun n => n hq3)) rfl ?_
          first
            | refine L_v (opv_pick_tt rfl rfl) rfl ?_
            | refine L_v (opv_pick_ff rfl rfl) rfl ?_
            | refine L_v (opv_pick rfl rfl rfl) rfl ?_
          refine L_nil ?_
          refine K_then ?_
          refine J_cond_false rfl ?_
          refine J_skip ?_
          refine K_block ?_
          refine K_then ?_
          refine J_region ?_
          refine L_v (opv_move rfl) rfl ?_
          first
            | refine L_v (opv_add64 rfl rfl (by omega)) rfl ?_
            | refine L_v (opv_addS rfl rfl (by omega)) rfl ?_
            | refine L_v (opv_add rfl rfl) rfl ?_
          refine L_v (opv_assign rfl) rfl ?_
          refine L_nil ?_
          exact K_loop ((y.1 + 1, T2)) ⟨by dsimp only; omega, hst1⟩ (by dsimp only; omega) ⟨rfl, rfl, rfl, trivial⟩ Ent.take
  · refine J_exit ?_
    refine K_then_exit ?_
    refine K_then_exit ?_
    refine K_block_here ?_
    refine K_then ?_
    refine J_seq ?_
    refine J_region ?_
    refine L_x rfl (opx_call0 (rawake_spec) rfl rfl rfl) (fun _ _ => ?_)
    refine L_emp ?_
    refine L_v (opv_assign rfl) rfl ?_
    refine L_nil ?_
    refine K_then ?_
    refine J_ret ?_
    exact K_ret1 rfl rfl () trivial (rfl) Ent.take


theorem ReasmOnly_law (W : World) (A : Option Addr) (len c : Nat) (xs : List Pk) (h : ArrIn W encPk 14 A len xs) (hl : len ≤ c) (hc : c ≤ maxLen) : FSpec Try.prog 13 #[.slice A len c] (old W) (fun _ : Unit => True) (fun _ => .bool true) (fun _ => old W) := by
  have e := h.1
  subst e
  have hn : xs.length ≤ 9223372036854775807 := by unfold maxLen at hc; omega
  by_cases hb : xs.length ≤ 60
  · exact RO_ok W A c xs (RdS.old h) hn hb
  · exact RO_bad W A c xs (RdS.old h) hn (by omega)

end Go.Proofs.Ytjpbpfihacfndaa
namespace Go.Proofs.Ytjpbpfihacfndaa.reasmOnly
open Go.ChangeShapes Go.WideShapes Go.ChangeAt Go.RowKit Go.SLA
open Go.ChangeMaps (open_string shut_string)
set_option linter.unusedVariables false
theorem own : ownKnob Try.prog.godebug = none := by kernel_rfl
theorem laidOut : laidOutB Try.prog = true := by kernel_rfl
set_option maxRecDepth 100000 in
theorem lifted (os : Os) (started : os.Started) (H : Type) (enc : TypeId × Value → H) :
    ReturnsInHanded {} Try.checked os 13 .any (Rows.reasmOnlySpec.pre6 enc Try.prog Try.f13 Rows.reasmOnlyRow.domain false) (Rows.reasmOnlySpec.post enc Try.prog Try.f13 false true false false) := by
  refine returnsInHanded_of_change_sized (C := Try.checked) own started (by kernel_rfl) Try.func13
    (ChangeSpec.witness6 (enc := enc) (C := Try.checked) false ⟨#[], #[.slice none 0 0], []⟩ 8 (by kernel_rfl) (by kernel_rfl) (by kernel_rfl) (by kernel_rfl)) ?_
  intro W base args ds gs before hval0 hW hcnd hsz0 _
  have hsz : (DataW.weightsEach Try.prog (Try.f13.params.toList ++ Rows.reasmOnlySpec.plain.varTypes Try.prog) (ds ++ gs)).all (· ≤ reachBytes) = true := hsz0
  have hval : ∀ (j : Nat) t v, Try.f13.params[j]? = some t → args[j]? = some v → Value.okWide Try.prog W .any base t v := hval0
  have hW' := hW
  obtain ⟨p, q, hA0, hV, rfl, hfz, hnd⟩ := hW
  have hA : DataW.TrodAll enc Try.prog W 0 (fun _ => true) true Try.f13.params.toList args.toList ds p := hA0
  rw [Try.params13] at hA hval hsz
  obtain ⟨v0, vs0, d0, ds0, p0, q0, hargs, rfl, rfl, h0, r0⟩ := trodAll_cons hA
  obtain ⟨rfl, rfl, rfl⟩ := trodAll_nil r0
  obtain rfl : args = #[v0] := by cases args; simp_all
  obtain ⟨rfl, rfl⟩ := trodVars_none hV
  have k0 := h0
  have lt0 : ∀ x ∈ p0, x.block < W.heap.size := by obtain ⟨m, hm⟩ := k0; exact DataW.trod_lt m _ _ _ hm
  obtain ⟨A0, len0, cap0, xs0, rfl, hl0, hc0, harr0, hok0⟩ := open_arr (D := 5) (ks := ksPk) (en := encPk) (ok := okPk) Try.underlying28 (by kernel_rfl) (by kernel_rfl) (by decide) (fun cs h => decPk cs h) (hval 0 28 v0 rfl rfl) h0
  clear hA0 hval0 hsz0 hsz
  refine (FSpec.law (ReasmOnly_law W A0 len0 cap0 xs0 harr0 hl0 hc0)).mono fun e W' ⟨he, bel⟩ => ?_
  subst he
  exact ⟨_, rfl, _, _, _, [], _, [], hW', trodAll_mk1 (shut_bool Try.underlying4 _), (trodAll_cons_mk (Below.trod laidOut (by kernel_rfl) (of_decide_eq_true (by kernel_rfl)) k0 bel lt0) trodAll_mk0), rfl, bel.frame _, fun h => by cases h⟩
theorem over : Rows.reasmOnlyRow.holds Try.pinned (OpenSpec.ofChange Rows.reasmOnlySpec) :=
  OpenClaim.holds_of_wide 13 Try.f13 rfl rfl rfl rfl rfl rfl rfl ⟨rfl, rfl, rfl, rfl, rfl⟩ rfl rfl rfl rfl rfl (by kernel_rfl) Try.func13 (by kernel_rfl)
    (of_decide_eq_true (by kernel_rfl)) (by unfold Func.isWrapper; first | (rw [if_pos (by decide +kernel)]; kernel_rfl) | (rw [if_neg (by decide +kernel)]; exact ⟨rfl, rfl⟩))
    (fun os started H enc _ => lifted os started H enc)
end Go.Proofs.Ytjpbpfihacfndaa.reasmOnly
namespace Go.Proofs.Ytjpbpfihacfndaa
theorem reasmOnly_holds : Rows.ReasmOnlySaid := reasmOnly.over
#print axioms reasmOnly_holds
end Go.Proofs.Ytjpbpfihacfndaa
namespace Go.Proofs.Ytjpbpfihacfndaa
open Go.SLA
end Go.Proofs.Ytjpbpfihacfndaa
