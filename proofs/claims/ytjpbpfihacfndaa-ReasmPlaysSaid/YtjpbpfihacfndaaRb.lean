/- Contracts of functions of the package reasm and of the library that they call, each proved by a walk over its code; they are used by the texts that import this one. -/
import Derived.Test.YtjpbpfihacfndaaRa
import Derived.Test.YtjpbpfihacfndaaH
namespace Go.Proofs.Ytjpbpfihacfndaa
open Go.SLA
set_option maxRecDepth 100000
set_option linter.unusedVariables false
set_option linter.unusedSimpArgs false
attribute [local irreducible] J L K QL Rg FSpec OpV OpX Rd Back

theorem set_take {M : List Ky} {i : Nat} {x : Ky} (hi : i < M.length) : (M.set i x).take (i + 1) = M.take i ++ [x] := by
  rw [List.set_eq_take_append_cons_drop, if_pos hi, List.append_cons]
  exact List.take_left' (by rw [List.length_append, List.length_take]; simp; omega)
theorem set_drop {M : List Ky} {i j : Nat} {x : Ky} (h : i < j) : (M.set i x).drop j = M.drop j := List.ext_getElem? fun n => by rw [List.getElem?_drop, List.getElem?_drop, List.getElem?_set_ne (by omega)]
theorem drop_get {M L : List Ky} {j : Nat} (h : M.drop j = L.drop j) : M[j]? = L[j]? := by
  have := congrArg (fun l : List Ky => l[0]?) h
  simpa [List.getElem?_drop] using this
theorem drop_succ {M L : List Ky} {j : Nat} (h : M.drop j = L.drop j) : M.drop (j + 1) = L.drop (j + 1) := by
  rw [← List.drop_drop, ← List.drop_drop, h]
theorem del_own {b c n i : Nat} {pre post l' : List Value} {M W : List Ky} (h1 : l'.take (pre.length + i * 10) = (pre ++ flatK M ++ post).take (pre.length + i * 10)) (h2 : l'.length = (pre ++ flatK M ++ post).length) (hM : M.length = n) (hi : i ≤ n) (hW : M.take i = W) (hc : n ≤ c) (hc2 : c ≤ maxLen) (hp : (c - n) * 10 ≤ post.length) : Ent (cel b l' 70) (Own 70 10 (.slice (some (ad b pre.length)) W.length c) W.length (flatK W)) := by
  have hWl : W.length = i := by rw [← hW, List.length_take]; omega
  have hm := flatK_len M
  have e1 : (pre ++ flatK M ++ post).take (pre.length + i * 10) = pre ++ flatK W := by
    have : flatK M = flatK W ++ flatK (M.drop i) := by
      unfold flatK
      rw [← hW, ← List.flatMap_append, List.take_append_drop]
    rw [this, show pre ++ (flatK W ++ flatK (M.drop i)) ++ post = (pre ++ flatK W) ++ (flatK (M.drop i) ++ post) by simp]
    exact List.take_left' (by rw [List.length_append, flatK_len, hWl])
  have e2 : l' = pre ++ flatK W ++ l'.drop (pre.length + i * 10) := by rw [← e1, ← h1, List.take_append_drop]
  rw [e2]
  refine Own.mk rfl (by omega) hc2 (by rw [flatK_len]) ?_
  simp only [List.length_append] at h2
  rw [List.length_drop, h2, hm, hM, hWl]
  omega

theorem Del_no (A : Option Addr) (b3 c : Nat) (L : List Ky) (k : Ky) (hq : L.length ≤ 1000000000) (h : ¬ fix L k < L.length) : FSpec Try.prog 69 #[.slice A L.length c, .func (.func 70) #[] #[.pointer (some (ad b3 0))]] ((sep (Own 70 10 (.slice A L.length c) L.length (flatK L)) (cel b3 (encKy k) 70))) (fun _ : Unit => True) (fun _ => .slice A L.length c) (fun _ => (sep (Own 70 10 (.slice A L.length c) L.length (flatK L)) (cel b3 (encKy k) 70))) := by
  refine FSpec.enter' Try.func69 rfl Try.ntmps69 rfl fun σ F => ?_
  refine J_seq ?_
  refine J_region ?_
  refine L_v (opv_assign rfl) rfl ?_
  refine L_nil ?_
  refine K_then ?_
  refine J_seq ?_
  refine J_region ?_
  refine L_v (opv_move rfl) rfl ?_
  refine L_v (opv_move rfl) rfl ?_
  refine L_x rfl (opx_call0 (IndexKey_spec A b3 c L k hq) rfl rfl rfl) (fun _ _ => ?_)
  rw [if_neg h]
  refine L_v (opv_assign rfl) rfl ?_
  refine L_nil ?_
  refine K_then ?_
  refine J_seq ?_
  refine J_seq ?_
  refine J_region ?_
  refine L_v (opv_move rfl) rfl ?_
  refine L_v ((opv_eql rfl rfl).bool_t rfl) rfl ?_
  refine L_nil ?_
  refine K_then ?_
  refine J_cond_true rfl ?_
  refine J_seq ?_
  refine J_region ?_
  refine L_v (opv_move rfl) rfl ?_
  refine L_v (opv_assign rfl) rfl ?_
  refine L_nil ?_
  refine K_then ?_
  refine J_ret ?_
  refine K_then_ret ?_
  exact K_ret1 rfl rfl () trivial (rfl) Ent.take

theorem Del_yes (A : Option Addr) (b3 c : Nat) (L : List Ky) (k : Ky) (hq : L.length ≤ 1000000000) (h : fix L k < L.length) : FSpec Try.prog 69 #[.slice A L.length c, .func (.func 70) #[] #[.pointer (some (ad b3 0))]] ((sep (Own 70 10 (.slice A L.length c) L.length (flatK L)) (cel b3 (encKy k) 70))) (fun r : Option Addr × Nat => True) (fun r => .slice r.1 (wo L k).length r.2) (fun r => (sep (Own 70 10 (.slice r.1 (wo L k).length r.2) (wo L k).length (flatK (wo L k))) (cel b3 (encKy k) 70))) := by
  refine FSpec.enter' Try.func69 rfl Try.ntmps69 rfl fun σ F => ?_
  refine J_seq ?_
  refine J_region ?_
  refine L_v (opv_assign rfl) rfl ?_
  refine L_nil ?_
  refine K_then ?_
  refine J_seq ?_
  refine J_region ?_
  refine L_v (opv_move rfl) rfl ?_
  refine L_v (opv_move rfl) rfl ?_
  refine L_x rfl (opx_call0 (IndexKey_spec A b3 c L k hq) rfl rfl rfl) (fun _ _ => ?_)
  rw [if_pos h]
  refine L_v (opv_assign rfl) rfl ?_
  refine L_nil ?_
  refine K_then ?_
  refine J_seq ?_
  refine J_seq ?_
  refine J_region ?_
  refine L_v (opv_move rfl) rfl ?_
  refine L_v ((opv_eql rfl rfl).bool_f (by omega)) rfl ?_
  refine L_nil ?_
  refine K_then ?_
  refine J_cond_false rfl ?_
  refine J_skip ?_
  refine K_then ?_
  refine J_seq ?_
  refine J_seq ?_
  refine J_eq _ (sep_assoc _ _ _) ?_
  refine J_own (fun e1 e2 e3 => absurd h (by rw [e2]; exact Nat.not_lt_zero _)) (fun b cap pre post e1 e2 e3 e4 e5 => ?_)
  simp only [Value.slice.injEq] at e1
  obtain ⟨rfl, _, rfl⟩ := e1
  refine J_region ?_
  refine L_v (opv_move rfl) rfl ?_
  first
    | refine L_v (opv_add64 rfl rfl (by omega)) rfl ?_
    | refine L_v (opv_addS rfl rfl (by omega)) rfl ?_
    | refine L_v (opv_add rfl rfl) rfl ?_
  refine L_v (opv_assign rfl) rfl ?_
  refine L_nil ?_
  refine K_then ?_
  refine J_block ?_
  refine J_loop (X := Nat × Nat × List Ky) (fun z => [(0, .slice (some (ad b pre.length)) L.length c), (1, .func (.func 70) #[] #[.pointer (some (ad b3 0))]), (5, .int .i64 z.1), (6, .int .i64 z.2.1)]) (fun z => (sep (cel b (pre ++ flatK z.2.2 ++ post) 70) (sep (cel b3 (encKy k) 70) (F)))) (fun z => z.2.2.length = L.length ∧ z.1 < z.2.1 ∧ z.2.1 ≤ L.length ∧ z.2.2.take z.1 = wo (L.take z.2.1) k ∧ z.2.2.drop z.2.1 = L.drop z.2.1) (fun z => L.length - z.2.1) ((fix L k, fix L k + 1, L)) ⟨rfl, Nat.lt_succ_self _, h, by dsimp only; rw [tk_snoc (fix_at h).1, wo_app, wo_one_eq rfl, (fix_at h).2, List.append_nil], rfl⟩ ⟨rfl, rfl, rfl, rfl, trivial⟩ (Ent.refl _) (fun z hz => ?_)
  obtain ⟨zM, z1, z2, zt, zd⟩ := hz
  have hiM : z.1 < z.2.2.length := by omega
  have hfl := flatK_len z.2.2
  refine J_seq ?_
  refine J_seq ?_
  refine J_region ?_
  refine L_v (opv_move rfl) rfl ?_
  refine L_v (opv_move rfl) rfl ?_
  first
    | refine L_v (opv_lenL rfl) rfl ?_
    | refine L_v (opv_lenS rfl) rfl ?_
  refine L_v (opv_lss rfl rfl) rfl ?_
  refine L_nil ?_
  refine K_then ?_
  refine J_cond rfl (fun h1 => ?_) (fun h1 => ?_)
  · have hjl : z.2.1 < L.length := by omega
    obtain ⟨x, hx⟩ : ∃ x, L[z.2.1]? = some x := ⟨_, List.getElem?_eq_getElem hjl⟩
    have hxM : z.2.2[z.2.1]? = some x := (drop_get zd).trans hx
    refine J_skip ?_
    refine K_then ?_
    refine J_seq ?_
    refine J_block ?_
    refine J_seq ?_
    refine J_region ?_
    refine L_v (opv_move rfl) rfl ?_
    refine L_v (opv_move rfl) rfl ?_
    first
      | refine L_v (opv_indexAddr rfl rfl (by omega)) rfl ?_
      | refine L_v (opv_indexAddrA rfl rfl (by omega)) rfl ?_
    refine L_v (opv_loadN (vs := [.int .u8 x.s0, .int .u8 x.s1, .int .u8 x.s2, .int .u8 x.s3, .int .u8 x.d0, .int .u8 x.d1, .int .u8 x.d2, .int .u8 x.d3, .int .i64 x.proto, .int .i64 x.id]) rfl rfl (fun j u hj => Rd.elem encKy_len (q := z.2.2) hxM hj)) rfl ?_
    refine L_x rfl (opx_alloc rfl) (fun b7 _ => ?_)
    refine L_x rfl (opx_store rfl rfl rfl (by simp [Value.oneCell'])) (fun _ _ => ?_)
    refine L_nil ?_
    refine K_then ?_
    refine J_seq ?_
    refine J_region ?_
    refine L_v (opv_move rfl) rfl ?_
    refine L_v (opv_loadS rfl) rfl ?_
    refine L_x rfl (opx_call (first := []) (captured := [.pointer (some (ad b3 0))]) (is_spec x k b3) rfl rfl rfl rfl) (fun _ _ => ?_)
    first
      | refine L_v (opv_notD rfl) rfl ?_
      | refine L_v (opv_not rfl) rfl ?_
    refine L_nil ?_
    refine K_then ?_
    refine J_cond rfl (fun h2 => ?_) (fun h2 => ?_)
    · refine J_seq ?_
      refine J_region ?_
      refine L_v (opv_move rfl) rfl ?_
      refine L_v (opv_move rfl) rfl ?_
      refine L_v (opv_loadS rfl) rfl ?_
      first
        | refine L_v (opv_indexAddr rfl rfl (by omega)) rfl ?_
        | refine L_v (opv_indexAddrA rfl rfl (by omega)) rfl ?_
      refine L_x rfl (opx_storeAt (m := 10) (vs := encKy x) (l' := pre ++ flatK (z.2.2.set z.1 x) ++ post) rfl rfl rfl (encKy_one x) (by simp only [List.length_append, Int.toNat_natCast, encKy_len]; omega) (by rw [Int.toNat_natCast]; exact flatK_set pre post hiM)) (fun _ _ => ?_)
      refine L_nil ?_
      refine K_then ?_
      refine J_region ?_
      refine L_v (opv_move rfl) rfl ?_
      first
        | refine L_v (opv_add64 rfl rfl (by omega)) rfl ?_
        | refine L_v (opv_addS rfl rfl (by omega)) rfl ?_
        | refine L_v (opv_add rfl rfl) rfl ?_
      refine L_v (opv_assign rfl) rfl ?_
      refine L_nil ?_
      refine K_block ?_
      refine K_then ?_
      refine J_region ?_
      refine L_v (opv_move rfl) rfl ?_
      first
        | refine L_v (opv_add64 rfl rfl (by omega)) rfl ?_
        | refine L_v (opv_addS rfl rfl (by omega)) rfl ?_
        | refine L_v (opv_add rfl rfl) rfl ?_
      refine L_v (opv_assign rfl) rfl ?_
      refine L_nil ?_
      exact K_loop ((z.1 + 1, z.2.1 + 1, z.2.2.set z.1 x)) ⟨by dsimp only; rw [List.length_set]; exact zM, by dsimp only; omega, by dsimp only; omega, by dsimp only; rw [set_take hiM, tk_snoc hx, wo_app, wo_one_ne h2, zt], by dsimp only; rw [set_drop (by omega)]; exact drop_succ zd⟩ (by dsimp only; omega) ⟨rfl, rfl, rfl, rfl, trivial⟩ (Ent.take (Q := (sep (cel b (pre ++ flatK (z.2.2.set z.1 x) ++ post) 70) (sep (cel b3 (encKy k) 70) (F)))))
    · refine J_skip ?_
      refine K_block ?_
      refine K_then ?_
      refine J_region ?_
      refine L_v (opv_move rfl) rfl ?_
      first
        | refine L_v (opv_add64 rfl rfl (by omega)) rfl ?_
        | refine L_v (opv_addS rfl rfl (by omega)) rfl ?_
        | refine L_v (opv_add rfl rfl) rfl ?_
      refine L_v (opv_assign rfl) rfl ?_
      refine L_nil ?_
      exact K_loop ((z.1, z.2.1 + 1, z.2.2)) ⟨zM, by dsimp only; omega, by dsimp only; omega, by dsimp only; rw [tk_snoc hx, wo_app, wo_one_eq (Classical.not_not.1 h2), zt, List.append_nil], drop_succ zd⟩ (by dsimp only; omega) ⟨rfl, rfl, rfl, rfl, trivial⟩ (Ent.take (Q := (sep (cel b (pre ++ flatK z.2.2 ++ post) 70) (sep (cel b3 (encKy k) 70) (F)))))
  · have hje : z.2.1 = L.length := by omega
    have hW : z.2.2.take z.1 = wo L k := by rw [zt, hje, List.take_length]
    have hz1 : z.1 = (wo L k).length := by rw [← hW, List.length_take]; omega
    refine J_exit ?_
    refine K_then_exit ?_
    refine K_then_exit ?_
    refine K_block_here ?_
    refine K_then ?_
    refine J_seq ?_
    refine J_region ?_
    refine L_v (opv_move rfl) rfl ?_
    refine L_v (opv_move rfl) rfl ?_
    refine L_v ((opv_sliceLlo rfl rfl (by omega)).as (v' := .slice (some (ad b (pre.length + z.1 * 10))) (L.length - z.1) (c - z.1)) (by rw [Int.toNat_natCast, cutV_at, if_neg (by omega)])) rfl ?_
    refine L_x rfl (opx_clear (m := 10) (zs := [.int .u8 0, .int .u8 0, .int .u8 0, .int .u8 0, .int .u8 0, .int .u8 0, .int .u8 0, .int .u8 0, .int .i64 0, .int .i64 0]) rfl rfl (by simp [Value.oneCell']) (by simp only [List.length_append]; omega)) (fun l' hl' => ?_)
    refine L_nil ?_
    refine K_then ?_
    refine J_seq ?_
    refine J_region ?_
    refine L_v (opv_move rfl) rfl ?_
    refine L_v (opv_move rfl) rfl ?_
    refine L_v ((opv_sliceLhi rfl rfl (by omega)).as (v' := .slice (some (ad b pre.length)) z.1 c) (by rw [Int.toNat_natCast, cutV_at]; simp)) rfl ?_
    refine L_v (opv_assign rfl) rfl ?_
    refine L_nil ?_
    refine K_then ?_
    refine J_ret ?_
    exact K_ret1 rfl rfl (some (ad b pre.length), c) trivial (by rw [hz1]) (Ent.trans (Ent.take (Q := (sep (cel b l' 70) (sep (cel b3 (encKy k) 70) (F))))) (Ent.trans (Ent.frame (del_own (n := L.length) (i := z.1) hl'.1 hl'.2 zM (by omega) hW e2 e3 e5) _) (Ent.of (sep_assoc _ _ _).symm)))


theorem Del_any (A : Option Addr) (b3 c : Nat) (L : List Ky) (k : Ky) (hq : L.length ≤ 1000000000) : FSpec Try.prog 69 #[.slice A L.length c, .func (.func 70) #[] #[.pointer (some (ad b3 0))]] ((sep (Own 70 10 (.slice A L.length c) L.length (flatK L)) (cel b3 (encKy k) 70))) (fun _ : Option Addr × Nat => True) (fun r => .slice r.1 (wo L k).length r.2) (fun r => (sep (Own 70 10 (.slice r.1 (wo L k).length r.2) (wo L k).length (flatK (wo L k))) (cel b3 (encKy k) 70))) := by
  by_cases h : fix L k < L.length
  · exact Del_yes A b3 c L k hq h
  · rw [fix_no h]
    exact (Del_no A b3 c L k hq h).conseq (Ent.refl _) fun _ _ => ⟨(A, c), trivial, rfl, Ent.refl _⟩

theorem forget_raw (p r : Nat) (c2 c3 c4 c5 : Value) (A : Option Addr) (c : Nat) (L : List Ky) (f : List Value → Option Value) (k : Ky) (hq : L.length ≤ 1000000000) : FSpec Try.prog 54 #[.pointer (some (ad p 0)), .agg [.int .u8 k.s0, .int .u8 k.s1, .int .u8 k.s2, .int .u8 k.s3, .int .u8 k.d0, .int .u8 k.d1, .int .u8 k.d2, .int .u8 k.d3, .int .i64 k.proto, .int .i64 k.id].toArray] ((sep (cel p [.map (some r), .slice A L.length c, c2, c3, c4, c5] 99) (sep (mapp r ksKy f) (Own 70 10 (.slice A L.length c) L.length (flatK L))))) (fun z : Option Addr × Nat => True) (fun z => .tuple #[]) (fun z => (sep (cel p [.map (some r), .slice z.1 (wo L k).length z.2, c2, c3, c4, c5] 99) (sep (mapp r ksKy (mdel f (encKy k))) (Own 70 10 (.slice z.1 (wo L k).length z.2) (wo L k).length (flatK (wo L k)))))) := by
  refine FSpec.enter' Try.func54 rfl Try.ntmps54 rfl fun σ F => ?_
  refine J_eq _ (sep_assoc _ _ _) ?_
  refine J_eq _ (congrArg (sep _) (sep_assoc _ _ _)) ?_
  refine J_seq ?_
  refine J_region ?_
  refine L_x rfl (opx_box (l := [.int .u8 k.s0, .int .u8 k.s1, .int .u8 k.s2, .int .u8 k.s3, .int .u8 k.d0, .int .u8 k.d1, .int .u8 k.d2, .int .u8 k.d3, .int .i64 k.proto, .int .i64 k.id]) rfl rfl) (fun b3 _ => ?_)
  refine L_nil ?_
  refine K_then ?_
  refine J_seq ?_
  refine J_steps ((sep (cel b3 [.int .u8 k.s0, .int .u8 k.s1, .int .u8 k.s2, .int .u8 k.s3, .int .u8 k.d0, .int .u8 k.d1, .int .u8 k.d2, .int .u8 k.d3, .int .i64 k.proto, .int .i64 k.id] 70) (cel p [.map (some r), .slice A L.length c, c2, c3, c4, c5] 99))) ((sep (cel b3 [.int .u8 k.s0, .int .u8 k.s1, .int .u8 k.s2, .int .u8 k.s3, .int .u8 k.d0, .int .u8 k.d1, .int .u8 k.d2, .int .u8 k.d3, .int .i64 k.proto, .int .i64 k.id] 70) (cel p [.map (some r), .slice A L.length c, c2, c3, c4, c5] 99))) [] Try.mixed ?_
  refine R_pure 0 rfl (by kernel_rfl) (by kernel_rfl) (by kernel_rfl) (by kernel_rfl) (.inr ⟨_, Take.eq (A := (sep (cel b3 [.int .u8 k.s0, .int .u8 k.s1, .int .u8 k.s2, .int .u8 k.s3, .int .u8 k.d0, .int .u8 k.d1, .int .u8 k.d2, .int .u8 k.d3, .int .i64 k.proto, .int .i64 k.id] 70) (cel p [.map (some r), .slice A L.length c, c2, c3, c4, c5] 99)))⟩) (opv_move rfl) rfl ?_
  refine R_pure 1 rfl (by kernel_rfl) (by kernel_rfl) (by kernel_rfl) (by kernel_rfl) (.inr ⟨_, Take.eq (A := (sep (cel b3 [.int .u8 k.s0, .int .u8 k.s1, .int .u8 k.s2, .int .u8 k.s3, .int .u8 k.d0, .int .u8 k.d1, .int .u8 k.d2, .int .u8 k.d3, .int .i64 k.proto, .int .i64 k.id] 70) (cel p [.map (some r), .slice A L.length c, c2, c3, c4, c5] 99)))⟩) (opv_nilCheck rfl) rfl ?_
  first
    | refine R_pure 2 rfl (by kernel_rfl) (by kernel_rfl) (by kernel_rfl) (by kernel_rfl) (.inr ⟨_, Take.eq (A := (sep (cel b3 [.int .u8 k.s0, .int .u8 k.s1, .int .u8 k.s2, .int .u8 k.s3, .int .u8 k.d0, .int .u8 k.d1, .int .u8 k.d2, .int .u8 k.d3, .int .i64 k.proto, .int .i64 k.id] 70) (cel p [.map (some r), .slice A L.length c, c2, c3, c4, c5] 99)))⟩) (opv_fieldAddr0 rfl) rfl ?_
    | refine R_pure 2 rfl (by kernel_rfl) (by kernel_rfl) (by kernel_rfl) (by kernel_rfl) (.inr ⟨_, Take.eq (A := (sep (cel b3 [.int .u8 k.s0, .int .u8 k.s1, .int .u8 k.s2, .int .u8 k.s3, .int .u8 k.d0, .int .u8 k.d1, .int .u8 k.d2, .int .u8 k.d3, .int .i64 k.proto, .int .i64 k.id] 70) (cel p [.map (some r), .slice A L.length c, c2, c3, c4, c5] 99)))⟩) (opv_fieldAddr rfl) rfl ?_
  refine R_take 3 rfl (by kernel_rfl) (by kernel_rfl) (by kernel_rfl) (by kernel_rfl) (by kernel_rfl) (opv_load rfl (Rd.look rfl)) rfl ?_
  refine R_take 4 rfl (by kernel_rfl) (by kernel_rfl) (by kernel_rfl) (by kernel_rfl) (by kernel_rfl) (opv_loadS rfl) rfl ?_
  refine R_only 5 rfl rfl (by kernel_rfl) (opx_delete0 (k := encKy k) (f := f) rfl rfl (shKy k)) (fun _ _ => ⟨_, Take.eq (A := (sep (cel b3 [.int .u8 k.s0, .int .u8 k.s1, .int .u8 k.s2, .int .u8 k.s3, .int .u8 k.d0, .int .u8 k.d1, .int .u8 k.d2, .int .u8 k.d3, .int .i64 k.proto, .int .i64 k.id] 70) (cel p [.map (some r), .slice A L.length c, c2, c3, c4, c5] 99)))⟩) (.inr fun _ _ => ⟨_, Take.eq (A := (sep (cel b3 [.int .u8 k.s0, .int .u8 k.s1, .int .u8 k.s2, .int .u8 k.s3, .int .u8 k.d0, .int .u8 k.d1, .int .u8 k.d2, .int .u8 k.d3, .int .i64 k.proto, .int .i64 k.id] 70) (cel p [.map (some r), .slice A L.length c, c2, c3, c4, c5] 99)))⟩) (fun _ _ => ?_)
  refine R_done (by kernel_rfl) ?_
  refine K_then ?_
  refine J_eq (sep (mapp r ksKy (mdel f (encKy k))) (sep (cel b3 (encKy k) 70) (sep (cel p [.map (some r), .slice A L.length c, c2, c3, c4, c5] 99) (sep (Own 70 10 (.slice A L.length c) L.length (flatK L)) (F))))) rfl ?_
  refine J_region ?_
  refine L_v (opv_move rfl) rfl ?_
  refine L_v (opv_move rfl) rfl ?_
  refine L_v (opv_nilCheck rfl) rfl ?_
  first
    | refine L_v (opv_fieldAddr0 rfl) rfl ?_
    | refine L_v (opv_fieldAddr rfl) rfl ?_
  refine L_v (opv_load rfl (Rd.look rfl)) rfl ?_
  refine L_v (opv_makeFunc rfl rfl) rfl ?_
  refine L_x rfl (opx_call0 (Del_any A b3 c L k hq) rfl rfl rfl) (fun z _ => ?_)
  refine L_eq _ (sep_assoc _ _ _) ?_
  refine L_v (opv_nilCheck rfl) rfl ?_
  first
    | refine L_v (opv_fieldAddr0 rfl) rfl ?_
    | refine L_v (opv_fieldAddr rfl) rfl ?_
  refine L_x rfl (opx_store rfl rfl rfl (by simp [Value.oneCell'])) (fun _ _ => ?_)
  refine L_nil ?_
  exact K_end0 rfl z trivial rfl (Ent.take (Q := (sep ((sep (cel p [.map (some r), .slice z.1 (wo L k).length z.2, c2, c3, c4, c5] 99) (sep (mapp r ksKy (mdel f (encKy k))) (Own 70 10 (.slice z.1 (wo L k).length z.2) (wo L k).length (flatK (wo L k)))))) (F))))

theorem drop_raw (p r : Nat) (c2 c3 c4 : Value) (A : Option Addr) (c : Nat) (L : List Ky) (f : List Value → Option Value) (k : Ky) (hq : L.length ≤ 1000000000) (d : Int) (hd : -1000000000 ≤ d ∧ d ≤ 1000000000) : FSpec Try.prog 50 #[.pointer (some (ad p 0)), .agg [.int .u8 k.s0, .int .u8 k.s1, .int .u8 k.s2, .int .u8 k.s3, .int .u8 k.d0, .int .u8 k.d1, .int .u8 k.d2, .int .u8 k.d3, .int .i64 k.proto, .int .i64 k.id].toArray] ((sep (cel p [.map (some r), .slice A L.length c, c2, c3, c4, .int .i64 d] 99) (sep (mapp r ksKy f) (Own 70 10 (.slice A L.length c) L.length (flatK L))))) (fun z : Option Addr × Nat => True) (fun z => .tuple #[]) (fun z => (sep (cel p [.map (some r), .slice z.1 (wo L k).length z.2, c2, c3, c4, .int .i64 (d + 1)] 99) (sep (mapp r ksKy (mdel f (encKy k))) (Own 70 10 (.slice z.1 (wo L k).length z.2) (wo L k).length (flatK (wo L k)))))) := by
  refine FSpec.enter' Try.func50 rfl Try.ntmps50 rfl fun σ F => ?_
  refine J_seq ?_
  refine J_region ?_
  refine L_x rfl (opx_box (l := [.int .u8 k.s0, .int .u8 k.s1, .int .u8 k.s2, .int .u8 k.s3, .int .u8 k.d0, .int .u8 k.d1, .int .u8 k.d2, .int .u8 k.d3, .int .i64 k.proto, .int .i64 k.id]) rfl rfl) (fun b3 _ => ?_)
  refine L_nil ?_
  refine K_then ?_
  refine J_seq ?_
  refine J_region ?_
  refine L_v (opv_move rfl) rfl ?_
  refine L_v (opv_loadS rfl) rfl ?_
  refine L_x rfl (opx_call0 (forget_raw p r c2 c3 c4 (.int .i64 d) A c L f k hq) rfl rfl rfl) (fun z _ => ?_)
  refine L_eq _ (sep_assoc _ _ _) ?_
  refine L_nil ?_
  refine K_then ?_
  refine J_region ?_
  refine L_v (opv_move rfl) rfl ?_
  refine L_v (opv_nilCheck rfl) rfl ?_
  first
    | refine L_v (opv_fieldAddr0 rfl) rfl ?_
    | refine L_v (opv_fieldAddr rfl) rfl ?_
  refine L_v (opv_load rfl (Rd.look rfl)) rfl ?_
  first
    | refine L_v (opv_add64 rfl rfl (by omega)) rfl ?_
    | refine L_v (opv_addS rfl rfl (by omega)) rfl ?_
    | refine L_v (opv_add rfl rfl) rfl ?_
  refine L_v (opv_nilCheck rfl) rfl ?_
  first
    | refine L_v (opv_fieldAddr0 rfl) rfl ?_
    | refine L_v (opv_fieldAddr rfl) rfl ?_
  refine L_x rfl (opx_store rfl rfl rfl (by simp [Value.oneCell'])) (fun _ _ => ?_)
  refine L_nil ?_
  exact K_end0 rfl z trivial rfl (Ent.take (Q := (sep ((sep (cel p [.map (some r), .slice z.1 (wo L k).length z.2, c2, c3, c4, .int .i64 (d + 1)] 99) (sep (mapp r ksKy (mdel f (encKy k))) (Own 70 10 (.slice z.1 (wo L k).length z.2) (wo L k).length (flatK (wo L k)))))) (F))))

end Go.Proofs.Ytjpbpfihacfndaa
