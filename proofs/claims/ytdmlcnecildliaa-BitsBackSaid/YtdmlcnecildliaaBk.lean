/- The law BitsBack of the package pitotlaw01 holds for every input: what was written is read. No condition. -/
import Derived.Test.YtdmlcnecildliaaBy
import Derived.Test.YtdmlcnecildliaaH
namespace Go.Proofs.Ytdmlcnecildliaa
open Go.SLA
set_option maxRecDepth 100000
set_option linter.unusedVariables false
set_option linter.unusedSimpArgs false
attribute [local irreducible] J L K QL Rg FSpec OpV OpX Rd Back

theorem drop_x {L : List It} {k : Nat} {x : It} (h : L[k]? = some x) : L.drop k = x :: L.drop (k + 1) := by
  have hk := glt h
  rw [List.getElem?_eq_getElem hk] at h
  simp only [Option.some.injEq] at h
  rw [List.drop_eq_getElem_cons hk, h]
theorem ints_it (W : World) (A : Option Addr) (c1 : Nat) (x : It) (ok : okIt W x) (hx : Small x) : FSpec Try.prog 38 #[.slice A x.ls.length c1, .slice x.la x.ll x.lc] (sep (Own 3 1 (.slice A x.ls.length c1) x.ls.length (x.ls.flatMap encZ)) (old W)) (fun _ : Unit => True) (fun _ => .bool true) (fun _ => (sep (Own 3 1 (.slice A x.ls.length c1) x.ls.length (x.ls.flatMap encZ)) (old W))) := by
  have el := ok.li.1
  have hl := hx.l
  have := ints_spec (old W) A x.la c1 x.lc x.ls (RdS.old ok.li) (by omega)
  rw [← el]
  exact this

theorem BB_no (W : World) (A : Option Addr) (c : Nat) (xs : List It) (hR : RdS (old W) encIt 5 A xs) (hn : xs.length ≤ 9223372036854775807) (h : ¬ few xs) : FSpec Try.prog 13 #[.slice A xs.length c] (old W) (fun _ : Unit => True) (fun _ => .bool true) (fun _ => old W) := by
  refine FSpec.enter' Try.func13 rfl Try.ntmps13 rfl fun σ F => ?_
  refine J_seq ?_
  refine J_region ?_
  refine L_v (opv_assign rfl) rfl ?_
  refine L_nil ?_
  refine K_then ?_
  refine J_seq ?_
  refine J_seq ?_
  refine J_region ?_
  refine L_v (opv_move rfl) rfl ?_
  refine L_x rfl (opx_call0 (few_spec W A c xs hR hn) rfl rfl rfl) (fun _ _ => ?_)
  rw [decide_eq_false h]
  refine L_v (opv_not rfl) rfl ?_
  refine L_nil ?_
  refine K_then ?_
  refine J_cond_true rfl ?_
  refine J_seq ?_
  refine J_region ?_
  refine L_x rfl (opx_call0 (awake_spec) rfl rfl rfl) (fun _ _ => ?_)
  refine L_emp ?_
  refine L_v (opv_assign rfl) rfl ?_
  refine L_nil ?_
  refine K_then ?_
  refine J_ret ?_
  refine K_then_ret ?_
  exact K_ret1 rfl rfl () trivial (rfl) Ent.take

set_option maxHeartbeats 1000000 in
theorem BB_ok (W : World) (A : Option Addr) (c : Nat) (xs : List It) (hR : RdS (old W) encIt 5 A xs) (hn : xs.length ≤ 9223372036854775807) (okx : ∀ x ∈ xs, okIt W x) (h : few xs) : FSpec Try.prog 13 #[.slice A xs.length c] (old W) (fun _ : Unit => True) (fun _ => .bool true) (fun _ => old W) := by
  have hx40 := h.1
  refine FSpec.enter' Try.func13 rfl Try.ntmps13 rfl fun σ F => ?_
  refine J_seq ?_
  refine J_region ?_
  refine L_v (opv_assign rfl) rfl ?_
  refine L_nil ?_
  refine K_then ?_
  refine J_seq ?_
  refine J_seq ?_
  refine J_region ?_
  refine L_v (opv_move rfl) rfl ?_
  refine L_x rfl (opx_call0 (few_spec W A c xs hR hn) rfl rfl rfl) (fun _ _ => ?_)
  rw [decide_eq_true h]
  refine L_v (opv_not rfl) rfl ?_
  refine L_nil ?_
  refine K_then ?_
  refine J_cond_false rfl ?_
  refine J_skip ?_
  refine K_then ?_
  refine J_seq ?_
  refine J_region ?_
  refine L_v (opv_build rfl) rfl ?_
  refine L_x rfl (opx_box rfl rfl) (fun p _ => ?_)
  refine L_v (opv_assign rfl) rfl ?_
  refine L_nil ?_
  refine K_then ?_
  refine J_seq ?_
  refine J_seq ?_
  refine J_imp (sep (WrP p (bytesL []) false) (sep (old W) (F))) (Ent.trans (Ent.take (Q := (sep (cel p [.slice none 0 0, .bool false] 42) (sep (old W) (F))))) WrP_new) ?_
  refine J_region ?_
  refine L_v (opv_assign rfl) rfl ?_
  refine L_nil ?_
  refine K_then ?_
  refine J_block ?_
  refine J_loop (X := Nat × ByteArray × Bool) (fun y => [(0, .slice A xs.length c), (3, .pointer (some (ad p 0))), (4, .int .i64 y.1)]) (fun y => (sep (WrP p y.2.1 y.2.2) (sep (old W) (F)))) (fun y => y.1 ≤ xs.length ∧ y.2.1.size ≤ 500 * y.1 ∧ runW (bytesL [], false) xs = runW y.2 (xs.drop y.1)) (fun y => xs.length - y.1) ((0, bytesL [], false)) ⟨Nat.zero_le _, Nat.le_refl _, rfl⟩ ⟨rfl, rfl, rfl, trivial⟩ (Ent.take (Q := (sep (WrP p (bytesL []) false) (sep (old W) (F))))) (fun y hy => ?_)
  obtain ⟨hk, hsz, hrun⟩ := hy
  refine J_seq ?_
  refine J_seq ?_
  refine J_region ?_
  refine L_v (opv_move rfl) rfl ?_
  refine L_v (opv_move rfl) rfl ?_
  first
    | refine L_v (opv_lenL rfl) rfl ?_
    | refine L_v (opv_lenS rfl) rfl ?_
  refine L_v (opv_lss rfl rfl) rfl ?_
  refine L_nil ?_
  refine K_then ?_
  refine J_cond rfl (fun h1 => ?_) (fun h1 => ?_)
  · have hkl : y.1 < xs.length := by omega
    obtain ⟨x, hxx⟩ : ∃ x, xs[y.1]? = some x := ⟨_, List.getElem?_eq_getElem hkl⟩
    obtain ⟨b, o, rfl⟩ := hR.nonnil y.1 hkl
    have hxm := List.mem_of_getElem? hxx
    refine J_skip ?_
    refine K_then ?_
    refine J_seq ?_
    refine J_block ?_
    refine J_region ?_
    refine L_v (opv_move rfl) rfl ?_
    refine L_v (opv_move rfl) rfl ?_
    refine L_v (opv_move rfl) rfl ?_
    first
      | refine L_v (opv_indexAddr rfl rfl (by omega)) rfl ?_
      | refine L_v (opv_indexAddrA rfl rfl (by omega)) rfl ?_
    refine L_v (opv_loadN (vs := [.int .i64 x.ask, .int .i64 x.num, .string x.s, .slice x.wa x.wl x.wc, .slice x.la x.ll x.lc]) rfl rfl (fun j u hj => Rd.of_take (S := old W) (hR.rd b o rfl y.1 x j u hxx hj))) rfl ?_
    refine L_x rfl (opx_call0 (write_spec W p y.2.1 y.2.2 x (okx x hxm) (h.2 x hxm) (by omega)) rfl rfl rfl) (fun _ _ => ?_)
    refine L_nil ?_
    refine K_block ?_
    refine K_then ?_
    refine J_region ?_
    refine L_v (opv_move rfl) rfl ?_
    first
      | refine L_v (opv_add64 rfl rfl (by omega)) rfl ?_
      | refine L_v (opv_addS rfl rfl (by omega)) rfl ?_
      | refine L_v (opv_add rfl rfl) rfl ?_
    refine L_v (opv_assign rfl) rfl ?_
    refine L_nil ?_
    have hws := wrS_sz (s := y.2.1) (bad := y.2.2) (h.2 x hxm)
    rw [drop_x hxx] at hrun
    exact K_loop ((y.1 + 1, (wrS y.2.1 y.2.2 x).1, (wrS y.2.1 y.2.2 x).2)) ⟨by dsimp only; omega, by dsimp only; omega, hrun⟩ (by dsimp only; omega) ⟨rfl, rfl, rfl, trivial⟩ Ent.take
  · have hyl : y.1 = xs.length := by omega
    have hfin : runW (bytesL [], false) xs = y.2 := by rw [hrun, hyl, List.drop_length]; rfl
    refine J_exit ?_
    refine K_then_exit ?_
    refine K_then_exit ?_
    refine K_block_here ?_
    refine K_then ?_
    refine J_seq ?_
    refine J_region ?_
    refine L_v (opv_move rfl) rfl ?_
    refine L_x rfl (opx_call0 (Bytes_any p y.2.1 y.2.2) rfl rfl rfl) (fun _ _ => ?_)
    refine L_v (opv_move rfl) rfl ?_
    refine L_v (opv_extract rfl rfl) rfl ?_
    refine L_v (opv_extract rfl rfl) rfl ?_
    refine L_v (opv_assign rfl) rfl ?_
    refine L_v (opv_assign rfl) rfl ?_
    refine L_nil ?_
    refine K_then ?_
    refine J_seq ?_
    refine J_seq ?_
    refine J_region ?_
    refine L_v (opv_move rfl) rfl ?_
    refine L_v ((opv_neq rfl rfl).as (v' := .bool (decide (y.2.2 = true))) (congrArg Value.bool (decide_eq_decide.2 (by unfold outS; cases y.2.2 <;> simp)))) rfl ?_
    refine L_nil ?_
    refine K_then ?_
    refine J_cond rfl (fun h2 => ?_) (fun h2 => ?_)
    · have hbt : y.2.2 = true := h2
      have ho1 : (outS y.2.1 y.2.2).1 = ⟨#[]⟩ := by unfold outS; rw [if_pos hbt]; rfl
      have ho2 : (outS y.2.1 y.2.2).2 = 1 := by unfold outS; rw [if_pos hbt]
      refine J_seq ?_
      refine J_region ?_
      refine L_v (opv_move rfl) rfl ?_
      refine L_v ((opv_eqlS rfl rfl).bool_t ho1) rfl ?_
      refine L_v (opv_move rfl) rfl ?_
      refine L_gon rfl rfl rfl ?_
      refine L_v (opv_move rfl) rfl ?_
      refine L_gon rfl rfl rfl ?_
      refine L_v ((opv_eql rfl rfl).bool_t ho2) rfl ?_
      first
        | refine L_v (opv_pick_tt rfl rfl) rfl ?_
        | refine L_v (opv_pick_ff rfl rfl) rfl ?_
        | refine L_v (opv_pick rfl rfl rfl) rfl ?_
      refine L_v (opv_move rfl) rfl ?_
      refine L_gon rfl rfl rfl ?_
      refine L_x rfl (opx_call0 (awake_spec) rfl rfl rfl) (fun _ _ => ?_)
      refine L_emp ?_
      first
        | refine L_v (opv_pick_tt rfl rfl) rfl ?_
        | refine L_v (opv_pick_ff rfl rfl) rfl ?_
        | refine L_v (opv_pick rfl rfl rfl) rfl ?_
      refine L_v (opv_assign rfl) rfl ?_
      refine L_nil ?_
      refine K_then ?_
      refine J_ret ?_
      refine K_then_ret ?_
      exact K_ret1 rfl rfl () trivial (rfl) Ent.take
    · have hbf : y.2.2 = false := by simpa using h2
      have ho1 : (outS y.2.1 y.2.2).1 = y.2.1 := by unfold outS; rw [if_neg h2]
      obtain ⟨ee, he1, hE⟩ := runW_enc (s := bytesL []) (l := xs) (by rw [hfin]; exact hbf)
      rw [hfin, nil_app] at he1
      rw [← he1] at hE
      rw [ho1]
      refine J_skip ?_
      refine K_then ?_
      refine J_seq ?_
      refine J_region ?_
      refine L_v (opv_move rfl) rfl ?_
      refine L_x rfl (opx_call0 (Read_spec y.2.1) rfl rfl rfl) (fun pr _ => ?_)
      refine L_v (opv_assign rfl) rfl ?_
      refine L_nil ?_
      refine K_then ?_
      refine J_seq ?_
      refine J_seq ?_
      refine J_region ?_
      refine L_v (opv_assign rfl) rfl ?_
      refine L_nil ?_
      refine K_then ?_
      refine J_block ?_
      refine J_loop (X := Nat × ByteArray) (fun z => [(0, .slice A xs.length c), (7, .pointer (some (ad pr 0))), (8, .int .i64 z.1)]) (fun z => (sep (cel pr [.string z.2, .int .i64 0] 85) (sep (old W) (F)))) (fun z => z.1 ≤ xs.length ∧ Enc (xs.drop z.1) z.2) (fun z => xs.length - z.1) ((0, y.2.1)) ⟨Nat.zero_le _, hE⟩ ⟨rfl, rfl, rfl, trivial⟩ Ent.take (fun z hz => ?_)
      obtain ⟨hzk, hz⟩ := hz
      refine J_seq ?_
      refine J_seq ?_
      refine J_region ?_
      refine L_v (opv_move rfl) rfl ?_
      refine L_v (opv_move rfl) rfl ?_
      first
        | refine L_v (opv_lenL rfl) rfl ?_
        | refine L_v (opv_lenS rfl) rfl ?_
      refine L_v (opv_lss rfl rfl) rfl ?_
      refine L_nil ?_
      refine K_then ?_
      refine J_cond rfl (fun h3 => ?_) (fun h3 => ?_)
      · have hkl : z.1 < xs.length := by omega
        obtain ⟨x, hxx⟩ : ∃ x, xs[z.1]? = some x := ⟨_, List.getElem?_eq_getElem hkl⟩
        obtain ⟨b, o, rfl⟩ := hR.nonnil z.1 hkl
        have hxm := List.mem_of_getElem? hxx
        have hdx := drop_x hxx
        obtain ⟨e1, e2, hz2, hrd, hen⟩ : ∃ e1 e2, z.2 = e1 ++ e2 ∧ Reads x e1 ∧ Enc (xs.drop (z.1 + 1)) e2 := by have := hz; rw [hdx] at this; exact this
        rw [hz2]
        refine J_skip ?_
        refine K_then ?_
        refine J_seq ?_
        refine J_block ?_
        refine J_seq ?_
        refine J_region ?_
        refine L_v (opv_assign rfl) rfl ?_
        refine L_nil ?_
        refine K_then ?_
        refine J_cut (X := ByteArray) (fun v => [(0, .slice (some (ad b o)) xs.length c), (7, .pointer (some (ad pr 0))), (8, .int .i64 z.1), (9, .bool true)]) (fun v => (sep (cel pr [.string v, .int .i64 0] 85) (sep (old W) (F)))) (fun v => Enc (xs.drop (z.1 + 1)) v) ?_ (fun v hv => ?_)
        · refine J_seq ?_
          refine J_region ?_
          refine L_v (opv_move rfl) rfl ?_
          refine L_v (opv_move rfl) rfl ?_
          first
            | refine L_v (opv_indexAddr rfl rfl (by omega)) rfl ?_
            | refine L_v (opv_indexAddrA rfl rfl (by omega)) rfl ?_
          first
            | refine L_v (opv_fieldAddr0 rfl) rfl ?_
            | refine L_v (opv_fieldAddr rfl) rfl ?_
          refine L_v (opv_load rfl (Rd.of_take (S := old W) (hR.rd b o rfl z.1 x 0 _ hxx rfl))) rfl ?_
          refine L_nil ?_
          refine K_then ?_
          refine J_block ?_
          refine J_seq ?_
          refine J_region ?_
          first
            | refine L_v (opv_eql rfl rfl) rfl ?_
            | refine L_v (opv_eqlS rfl rfl) rfl ?_
            | refine L_v (opv_eqlNil rfl rfl) rfl ?_
            | refine L_v (opv_eqlB rfl rfl) rfl ?_
          refine L_v (opv_assign rfl) rfl ?_
          refine L_nil ?_
          refine K_then ?_
          refine J_cond rfl (fun h4 => ?_) (fun h4 => ?_)
          · have hsk : x.ask = 0 := h4
            unfold Reads at hrd
            rw [if_pos hsk] at hrd
            obtain ⟨k, hkn, hk1, rfl⟩ := hrd
            refine J_steps (old W) (old W) [] Try.mixed ?_
            refine R_pure 0 rfl (by kernel_rfl) (by kernel_rfl) (by kernel_rfl) (by kernel_rfl) (.inr ⟨_, Take.eq (A := old W)⟩) (opv_move rfl) rfl ?_
            refine R_pure 2 rfl (by kernel_rfl) (by kernel_rfl) (by kernel_rfl) (by kernel_rfl) (.inr ⟨_, Take.eq (A := old W)⟩) (opv_move rfl) rfl ?_
            refine R_pure 3 rfl (by kernel_rfl) (by kernel_rfl) (by kernel_rfl) (by kernel_rfl) (.inr ⟨_, Take.eq (A := old W)⟩) (opv_move rfl) rfl ?_
            first
              | refine R_pure 4 rfl (by kernel_rfl) (by kernel_rfl) (by kernel_rfl) (by kernel_rfl) (.inr ⟨_, Take.eq (A := old W)⟩) (opv_indexAddr rfl rfl (by omega)) rfl ?_
              | refine R_pure 4 rfl (by kernel_rfl) (by kernel_rfl) (by kernel_rfl) (by kernel_rfl) (.inr ⟨_, Take.eq (A := old W)⟩) (opv_indexAddrA rfl rfl (by omega)) rfl ?_
            first
              | refine R_pure 5 rfl (by kernel_rfl) (by kernel_rfl) (by kernel_rfl) (by kernel_rfl) (.inr ⟨_, Take.eq (A := old W)⟩) (opv_fieldAddr0 rfl) rfl ?_
              | refine R_pure 5 rfl (by kernel_rfl) (by kernel_rfl) (by kernel_rfl) (by kernel_rfl) (.inr ⟨_, Take.eq (A := old W)⟩) (opv_fieldAddr rfl) rfl ?_
            refine R_take 6 rfl (by kernel_rfl) (by kernel_rfl) (by kernel_rfl) (by kernel_rfl) (by kernel_rfl) (opv_load rfl (Rd.of_take (S := old W) (hR.rd b o rfl z.1 x 1 _ hxx rfl))) rfl ?_
            refine R_only 1 rfl rfl (by kernel_rfl) (opx_call0 (RU8_app pr k hk1 e2) rfl rfl rfl) (fun _ _ => ⟨_, Take.eq (A := old W)⟩) (.inr fun _ _ => ⟨_, Take.eq (A := old W)⟩) (fun _ _ => ?_)
            refine R_pure 7 rfl (by kernel_rfl) (by kernel_rfl) (by kernel_rfl) (by kernel_rfl) (.inr ⟨_, Take.eq (A := old W)⟩) ((opv_eql rfl rfl).bool_t (by omega)) rfl ?_
            refine R_pure 8 rfl (by kernel_rfl) (by kernel_rfl) (by kernel_rfl) (by kernel_rfl) (.inr ⟨_, Take.eq (A := old W)⟩) (opv_assign rfl) rfl ?_
            refine R_done (by kernel_rfl) ?_
            refine K_block ?_
            exact K_cut e2 hen ⟨rfl, rfl, rfl, rfl, trivial⟩ Ent.take
          · refine J_seq ?_
            refine J_region ?_
            first
              | refine L_v (opv_eql rfl rfl) rfl ?_
              | refine L_v (opv_eqlS rfl rfl) rfl ?_
              | refine L_v (opv_eqlNil rfl rfl) rfl ?_
              | refine L_v (opv_eqlB rfl rfl) rfl ?_
            refine L_v (opv_assign rfl) rfl ?_
            refine L_nil ?_
            refine K_then ?_
            refine J_cond rfl (fun h5 => ?_) (fun h5 => ?_)
            · have hsk : x.ask = 1 := h5
              unfold Reads at hrd
              rw [if_neg (by omega), if_pos hsk] at hrd
              obtain ⟨k, hkn, hk1, rfl⟩ := hrd
              refine J_steps (old W) (old W) [] Try.mixed ?_
              refine R_pure 0 rfl (by kernel_rfl) (by kernel_rfl) (by kernel_rfl) (by kernel_rfl) (.inr ⟨_, Take.eq (A := old W)⟩) (opv_move rfl) rfl ?_
              refine R_pure 2 rfl (by kernel_rfl) (by kernel_rfl) (by kernel_rfl) (by kernel_rfl) (.inr ⟨_, Take.eq (A := old W)⟩) (opv_move rfl) rfl ?_
              refine R_pure 3 rfl (by kernel_rfl) (by kernel_rfl) (by kernel_rfl) (by kernel_rfl) (.inr ⟨_, Take.eq (A := old W)⟩) (opv_move rfl) rfl ?_
              first
                | refine R_pure 4 rfl (by kernel_rfl) (by kernel_rfl) (by kernel_rfl) (by kernel_rfl) (.inr ⟨_, Take.eq (A := old W)⟩) (opv_indexAddr rfl rfl (by omega)) rfl ?_
                | refine R_pure 4 rfl (by kernel_rfl) (by kernel_rfl) (by kernel_rfl) (by kernel_rfl) (.inr ⟨_, Take.eq (A := old W)⟩) (opv_indexAddrA rfl rfl (by omega)) rfl ?_
              first
                | refine R_pure 5 rfl (by kernel_rfl) (by kernel_rfl) (by kernel_rfl) (by kernel_rfl) (.inr ⟨_, Take.eq (A := old W)⟩) (opv_fieldAddr0 rfl) rfl ?_
                | refine R_pure 5 rfl (by kernel_rfl) (by kernel_rfl) (by kernel_rfl) (by kernel_rfl) (.inr ⟨_, Take.eq (A := old W)⟩) (opv_fieldAddr rfl) rfl ?_
              refine R_take 6 rfl (by kernel_rfl) (by kernel_rfl) (by kernel_rfl) (by kernel_rfl) (by kernel_rfl) (opv_load rfl (Rd.of_take (S := old W) (hR.rd b o rfl z.1 x 1 _ hxx rfl))) rfl ?_
              refine R_only 1 rfl rfl (by kernel_rfl) (opx_call0 (RU16_app pr k hk1 e2) rfl rfl rfl) (fun _ _ => ⟨_, Take.eq (A := old W)⟩) (.inr fun _ _ => ⟨_, Take.eq (A := old W)⟩) (fun _ _ => ?_)
              refine R_pure 7 rfl (by kernel_rfl) (by kernel_rfl) (by kernel_rfl) (by kernel_rfl) (.inr ⟨_, Take.eq (A := old W)⟩) ((opv_eql rfl rfl).bool_t (by omega)) rfl ?_
              refine R_pure 8 rfl (by kernel_rfl) (by kernel_rfl) (by kernel_rfl) (by kernel_rfl) (.inr ⟨_, Take.eq (A := old W)⟩) (opv_assign rfl) rfl ?_
              refine R_done (by kernel_rfl) ?_
              refine K_block ?_
              exact K_cut e2 hen ⟨rfl, rfl, rfl, rfl, trivial⟩ Ent.take
            · refine J_seq ?_
              refine J_region ?_
              first
                | refine L_v (opv_eql rfl rfl) rfl ?_
                | refine L_v (opv_eqlS rfl rfl) rfl ?_
                | refine L_v (opv_eqlNil rfl rfl) rfl ?_
                | refine L_v (opv_eqlB rfl rfl) rfl ?_
              refine L_v (opv_assign rfl) rfl ?_
              refine L_nil ?_
              refine K_then ?_
              refine J_cond rfl (fun h6 => ?_) (fun h6 => ?_)
              · have hsk : x.ask = 2 := h6
                unfold Reads at hrd
                rw [if_neg (by omega), if_neg (by omega), if_pos hsk] at hrd
                obtain ⟨k, hkn, hk1, rfl⟩ := hrd
                refine J_steps (old W) (old W) [] Try.mixed ?_
                refine R_pure 0 rfl (by kernel_rfl) (by kernel_rfl) (by kernel_rfl) (by kernel_rfl) (.inr ⟨_, Take.eq (A := old W)⟩) (opv_move rfl) rfl ?_
                refine R_pure 2 rfl (by kernel_rfl) (by kernel_rfl) (by kernel_rfl) (by kernel_rfl) (.inr ⟨_, Take.eq (A := old W)⟩) (opv_move rfl) rfl ?_
                refine R_pure 3 rfl (by kernel_rfl) (by kernel_rfl) (by kernel_rfl) (by kernel_rfl) (.inr ⟨_, Take.eq (A := old W)⟩) (opv_move rfl) rfl ?_
                first
                  | refine R_pure 4 rfl (by kernel_rfl) (by kernel_rfl) (by kernel_rfl) (by kernel_rfl) (.inr ⟨_, Take.eq (A := old W)⟩) (opv_indexAddr rfl rfl (by omega)) rfl ?_
                  | refine R_pure 4 rfl (by kernel_rfl) (by kernel_rfl) (by kernel_rfl) (by kernel_rfl) (.inr ⟨_, Take.eq (A := old W)⟩) (opv_indexAddrA rfl rfl (by omega)) rfl ?_
                first
                  | refine R_pure 5 rfl (by kernel_rfl) (by kernel_rfl) (by kernel_rfl) (by kernel_rfl) (.inr ⟨_, Take.eq (A := old W)⟩) (opv_fieldAddr0 rfl) rfl ?_
                  | refine R_pure 5 rfl (by kernel_rfl) (by kernel_rfl) (by kernel_rfl) (by kernel_rfl) (.inr ⟨_, Take.eq (A := old W)⟩) (opv_fieldAddr rfl) rfl ?_
                refine R_take 6 rfl (by kernel_rfl) (by kernel_rfl) (by kernel_rfl) (by kernel_rfl) (by kernel_rfl) (opv_load rfl (Rd.of_take (S := old W) (hR.rd b o rfl z.1 x 1 _ hxx rfl))) rfl ?_
                refine R_only 1 rfl rfl (by kernel_rfl) (opx_call0 (RU32_app pr k hk1 e2) rfl rfl rfl) (fun _ _ => ⟨_, Take.eq (A := old W)⟩) (.inr fun _ _ => ⟨_, Take.eq (A := old W)⟩) (fun _ _ => ?_)
                refine R_pure 7 rfl (by kernel_rfl) (by kernel_rfl) (by kernel_rfl) (by kernel_rfl) (.inr ⟨_, Take.eq (A := old W)⟩) ((opv_eql rfl rfl).bool_t (by omega)) rfl ?_
                refine R_pure 8 rfl (by kernel_rfl) (by kernel_rfl) (by kernel_rfl) (by kernel_rfl) (.inr ⟨_, Take.eq (A := old W)⟩) (opv_assign rfl) rfl ?_
                refine R_done (by kernel_rfl) ?_
                refine K_block ?_
                exact K_cut e2 hen ⟨rfl, rfl, rfl, rfl, trivial⟩ Ent.take
              · refine J_seq ?_
                refine J_region ?_
                first
                  | refine L_v (opv_eql rfl rfl) rfl ?_
                  | refine L_v (opv_eqlS rfl rfl) rfl ?_
                  | refine L_v (opv_eqlNil rfl rfl) rfl ?_
                  | refine L_v (opv_eqlB rfl rfl) rfl ?_
                refine L_v (opv_assign rfl) rfl ?_
                refine L_nil ?_
                refine K_then ?_
                refine J_cond rfl (fun h7 => ?_) (fun h7 => ?_)
                · have hsk : x.ask = 3 := h7
                  unfold Reads at hrd
                  rw [if_neg (by omega), if_neg (by omega), if_neg (by omega), if_pos hsk] at hrd
                  subst hrd
                  refine J_steps (old W) (old W) [] Try.mixed ?_
                  refine R_pure 0 rfl (by kernel_rfl) (by kernel_rfl) (by kernel_rfl) (by kernel_rfl) (.inr ⟨_, Take.eq (A := old W)⟩) (opv_move rfl) rfl ?_
                  refine R_pure 1 rfl (by kernel_rfl) (by kernel_rfl) (by kernel_rfl) (by kernel_rfl) (.inr ⟨_, Take.eq (A := old W)⟩) (opv_move rfl) rfl ?_
                  refine R_pure 2 rfl (by kernel_rfl) (by kernel_rfl) (by kernel_rfl) (by kernel_rfl) (.inr ⟨_, Take.eq (A := old W)⟩) (opv_move rfl) rfl ?_
                  first
                    | refine R_pure 3 rfl (by kernel_rfl) (by kernel_rfl) (by kernel_rfl) (by kernel_rfl) (.inr ⟨_, Take.eq (A := old W)⟩) (opv_indexAddr rfl rfl (by omega)) rfl ?_
                    | refine R_pure 3 rfl (by kernel_rfl) (by kernel_rfl) (by kernel_rfl) (by kernel_rfl) (.inr ⟨_, Take.eq (A := old W)⟩) (opv_indexAddrA rfl rfl (by omega)) rfl ?_
                  first
                    | refine R_pure 4 rfl (by kernel_rfl) (by kernel_rfl) (by kernel_rfl) (by kernel_rfl) (.inr ⟨_, Take.eq (A := old W)⟩) (opv_fieldAddr0 rfl) rfl ?_
                    | refine R_pure 4 rfl (by kernel_rfl) (by kernel_rfl) (by kernel_rfl) (by kernel_rfl) (.inr ⟨_, Take.eq (A := old W)⟩) (opv_fieldAddr rfl) rfl ?_
                  refine R_take 5 rfl (by kernel_rfl) (by kernel_rfl) (by kernel_rfl) (by kernel_rfl) (by kernel_rfl) (opv_load rfl (Rd.of_take (S := old W) (hR.rd b o rfl z.1 x 2 _ hxx rfl))) rfl ?_
                  first
                    | refine R_pure 6 rfl (by kernel_rfl) (by kernel_rfl) (by kernel_rfl) (by kernel_rfl) (.inr ⟨_, Take.eq (A := old W)⟩) (opv_lenL rfl) rfl ?_
                    | refine R_pure 6 rfl (by kernel_rfl) (by kernel_rfl) (by kernel_rfl) (by kernel_rfl) (.inr ⟨_, Take.eq (A := old W)⟩) (opv_lenS rfl) rfl ?_
                  refine R_pure 8 rfl (by kernel_rfl) (by kernel_rfl) (by kernel_rfl) (by kernel_rfl) (.inr ⟨_, Take.eq (A := old W)⟩) (opv_move rfl) rfl ?_
                  refine R_pure 9 rfl (by kernel_rfl) (by kernel_rfl) (by kernel_rfl) (by kernel_rfl) (.inr ⟨_, Take.eq (A := old W)⟩) (opv_move rfl) rfl ?_
                  first
                    | refine R_pure 10 rfl (by kernel_rfl) (by kernel_rfl) (by kernel_rfl) (by kernel_rfl) (.inr ⟨_, Take.eq (A := old W)⟩) (opv_indexAddr rfl rfl (by omega)) rfl ?_
                    | refine R_pure 10 rfl (by kernel_rfl) (by kernel_rfl) (by kernel_rfl) (by kernel_rfl) (.inr ⟨_, Take.eq (A := old W)⟩) (opv_indexAddrA rfl rfl (by omega)) rfl ?_
                  first
                    | refine R_pure 11 rfl (by kernel_rfl) (by kernel_rfl) (by kernel_rfl) (by kernel_rfl) (.inr ⟨_, Take.eq (A := old W)⟩) (opv_fieldAddr0 rfl) rfl ?_
                    | refine R_pure 11 rfl (by kernel_rfl) (by kernel_rfl) (by kernel_rfl) (by kernel_rfl) (.inr ⟨_, Take.eq (A := old W)⟩) (opv_fieldAddr rfl) rfl ?_
                  refine R_take 12 rfl (by kernel_rfl) (by kernel_rfl) (by kernel_rfl) (by kernel_rfl) (by kernel_rfl) (opv_load rfl (Rd.of_take (S := old W) (hR.rd b o rfl z.1 x 2 _ hxx rfl))) rfl ?_
                  refine R_only 7 rfl rfl (by kernel_rfl) (opx_call0 (RText_app pr x.s e2) rfl rfl rfl) (fun _ _ => ⟨_, Take.eq (A := old W)⟩) (.inr fun _ _ => ⟨_, Take.eq (A := old W)⟩) (fun _ _ => ?_)
                  refine R_pure 13 rfl (by kernel_rfl) (by kernel_rfl) (by kernel_rfl) (by kernel_rfl) (.inr ⟨_, Take.eq (A := old W)⟩) ((opv_eqlS rfl rfl).bool_t rfl) rfl ?_
                  refine R_pure 14 rfl (by kernel_rfl) (by kernel_rfl) (by kernel_rfl) (by kernel_rfl) (.inr ⟨_, Take.eq (A := old W)⟩) (opv_assign rfl) rfl ?_
                  refine R_done (by kernel_rfl) ?_
                  refine K_block ?_
                  exact K_cut e2 hen ⟨rfl, rfl, rfl, rfl, trivial⟩ Ent.take
                · refine J_seq ?_
                  refine J_region ?_
                  first
                    | refine L_v (opv_eql rfl rfl) rfl ?_
                    | refine L_v (opv_eqlS rfl rfl) rfl ?_
                    | refine L_v (opv_eqlNil rfl rfl) rfl ?_
                    | refine L_v (opv_eqlB rfl rfl) rfl ?_
                  refine L_v (opv_assign rfl) rfl ?_
                  refine L_nil ?_
                  refine K_then ?_
                  refine J_cond rfl (fun h8 => ?_) (fun h8 => ?_)
                  · have hsk : x.ask = 4 := h8
                    unfold Reads at hrd
                    rw [if_neg (by omega), if_neg (by omega), if_neg (by omega), if_neg (by omega), if_pos hsk] at hrd
                    obtain ⟨cc, n, hcc, hcw, hcs, hnn, hu, rfl⟩ := hrd
                    refine J_steps (old W) (old W) [] Try.mixed ?_
                    refine R_pure 0 rfl (by kernel_rfl) (by kernel_rfl) (by kernel_rfl) (by kernel_rfl) (.inr ⟨_, Take.eq (A := old W)⟩) (opv_move rfl) rfl ?_
                    refine R_pure 1 rfl (by kernel_rfl) (by kernel_rfl) (by kernel_rfl) (by kernel_rfl) (.inr ⟨_, Take.eq (A := old W)⟩) (opv_move rfl) rfl ?_
                    refine R_pure 2 rfl (by kernel_rfl) (by kernel_rfl) (by kernel_rfl) (by kernel_rfl) (.inr ⟨_, Take.eq (A := old W)⟩) (opv_move rfl) rfl ?_
                    first
                      | refine R_pure 3 rfl (by kernel_rfl) (by kernel_rfl) (by kernel_rfl) (by kernel_rfl) (.inr ⟨_, Take.eq (A := old W)⟩) (opv_indexAddr rfl rfl (by omega)) rfl ?_
                      | refine R_pure 3 rfl (by kernel_rfl) (by kernel_rfl) (by kernel_rfl) (by kernel_rfl) (.inr ⟨_, Take.eq (A := old W)⟩) (opv_indexAddrA rfl rfl (by omega)) rfl ?_
                    first
                      | refine R_pure 4 rfl (by kernel_rfl) (by kernel_rfl) (by kernel_rfl) (by kernel_rfl) (.inr ⟨_, Take.eq (A := old W)⟩) (opv_fieldAddr0 rfl) rfl ?_
                      | refine R_pure 4 rfl (by kernel_rfl) (by kernel_rfl) (by kernel_rfl) (by kernel_rfl) (.inr ⟨_, Take.eq (A := old W)⟩) (opv_fieldAddr rfl) rfl ?_
                    refine R_take 5 rfl (by kernel_rfl) (by kernel_rfl) (by kernel_rfl) (by kernel_rfl) (by kernel_rfl) (opv_load rfl (Rd.of_take (S := old W) (hR.rd b o rfl z.1 x 3 _ hxx rfl))) rfl ?_
                    refine R_pure 7 rfl (by kernel_rfl) (by kernel_rfl) (by kernel_rfl) (by kernel_rfl) (.inr ⟨_, Take.eq (A := old W)⟩) (opv_move rfl) rfl ?_
                    refine R_pure 8 rfl (by kernel_rfl) (by kernel_rfl) (by kernel_rfl) (by kernel_rfl) (.inr ⟨_, Take.eq (A := old W)⟩) (opv_move rfl) rfl ?_
                    first
                      | refine R_pure 9 rfl (by kernel_rfl) (by kernel_rfl) (by kernel_rfl) (by kernel_rfl) (.inr ⟨_, Take.eq (A := old W)⟩) (opv_indexAddr rfl rfl (by omega)) rfl ?_
                      | refine R_pure 9 rfl (by kernel_rfl) (by kernel_rfl) (by kernel_rfl) (by kernel_rfl) (.inr ⟨_, Take.eq (A := old W)⟩) (opv_indexAddrA rfl rfl (by omega)) rfl ?_
                    first
                      | refine R_pure 10 rfl (by kernel_rfl) (by kernel_rfl) (by kernel_rfl) (by kernel_rfl) (.inr ⟨_, Take.eq (A := old W)⟩) (opv_fieldAddr0 rfl) rfl ?_
                      | refine R_pure 10 rfl (by kernel_rfl) (by kernel_rfl) (by kernel_rfl) (by kernel_rfl) (.inr ⟨_, Take.eq (A := old W)⟩) (opv_fieldAddr rfl) rfl ?_
                    refine R_take 11 rfl (by kernel_rfl) (by kernel_rfl) (by kernel_rfl) (by kernel_rfl) (by kernel_rfl) (opv_load rfl (Rd.of_take (S := old W) (hR.rd b o rfl z.1 x 4 _ hxx rfl))) rfl ?_
                    refine R_only 6 rfl rfl (by kernel_rfl) (opx_call0 (RBits_app pr n cc hcc hnn e2 W x (okx x hxm) (h.2 x hxm) hcw hcs hu) rfl rfl rfl) (fun _ _ => ⟨_, Take.eq (A := old W)⟩) (.inr fun _ _ => ⟨_, Take.eq (A := old W)⟩) (fun r _ => ?_)
                    refine R_only 12 rfl rfl (by kernel_rfl) (opx_call0 (ints_it W r.1 r.2 x (okx x hxm) (h.2 x hxm)) rfl rfl rfl) (fun _ _ => ⟨_, Take.eq (A := old W)⟩) (.inr fun _ _ => ⟨_, Take.eq (A := old W)⟩) (fun _ _ => ?_)
                    refine R_pure 13 rfl (by kernel_rfl) (by kernel_rfl) (by kernel_rfl) (by kernel_rfl) (.inr ⟨_, Take.eq (A := old W)⟩) (opv_assign rfl) rfl ?_
                    refine R_done (by kernel_rfl) ?_
                    refine K_block ?_
                    exact K_cut e2 hen ⟨rfl, rfl, rfl, rfl, trivial⟩ Ent.take
                  · unfold Reads at hrd
                    rw [if_neg (by assumption), if_neg (by assumption), if_neg (by assumption), if_neg (by assumption), if_neg (by assumption)] at hrd
                    subst hrd
                    rw [show ByteArray.empty ++ e2 = e2 by simp]
                    refine J_skip ?_
                    refine K_block ?_
                    exact K_cut e2 hen ⟨rfl, rfl, rfl, rfl, trivial⟩ Ent.take
        · refine J_seq ?_
          refine J_region ?_
          refine L_v (opv_move rfl) rfl ?_
          refine L_v (opv_not rfl) rfl ?_
          refine L_nil ?_
          refine K_then ?_
          refine J_cond_false rfl ?_
          refine J_skip ?_
          refine K_block ?_
          refine K_then ?_
          refine J_region ?_
          refine L_v (opv_move rfl) rfl ?_
          first
            | refine L_v (opv_add64 rfl rfl (by omega)) rfl ?_
            | refine L_v (opv_addS rfl rfl (by omega)) rfl ?_
            | refine L_v (opv_add rfl rfl) rfl ?_
          refine L_v (opv_assign rfl) rfl ?_
          refine L_nil ?_
          exact K_loop ((z.1 + 1, v)) ⟨by dsimp only; omega, hv⟩ (by dsimp only; omega) ⟨rfl, rfl, rfl, trivial⟩ Ent.take
      · have hzl : z.1 = xs.length := by omega
        have hz0 : z.2 = ByteArray.empty := by have := hz; rw [hzl, List.drop_length] at this; exact this
        rw [hz0]
        refine J_exit ?_
        refine K_then_exit ?_
        refine K_then_exit ?_
        refine K_block_here ?_
        refine K_then ?_
        refine J_seq ?_
        refine J_region ?_
        refine L_v (opv_move rfl) rfl ?_
        refine L_x rfl (opx_call0 (Left_spec pr ByteArray.empty 0) rfl rfl rfl) (fun _ _ => ?_)
        refine L_v ((opv_eql rfl rfl).bool_t rfl) rfl ?_
        refine L_v (opv_move rfl) rfl ?_
        refine L_gon rfl rfl rfl ?_
        refine L_v (opv_move rfl) rfl ?_
        refine L_gon rfl rfl rfl ?_
        refine L_x rfl (opx_call0 (Err_spec pr ByteArray.empty 0) rfl rfl rfl) (fun _ _ => ?_)
        refine L_gon rfl rfl rfl ?_
        refine L_v ((opv_eql rfl rfl).bool_t rfl) rfl ?_
        first
          | refine L_v (opv_pick_tt rfl rfl) rfl ?_
          | refine L_v (opv_pick_ff rfl rfl) rfl ?_
          | refine L_v (opv_pick rfl rfl rfl) rfl ?_
        refine L_v (opv_move rfl) rfl ?_
        refine L_gon rfl rfl rfl ?_
        refine L_x rfl (opx_call0 (awake_spec) rfl rfl rfl) (fun _ _ => ?_)
        refine L_emp ?_
        first
          | refine L_v (opv_pick_tt rfl rfl) rfl ?_
          | refine L_v (opv_pick_ff rfl rfl) rfl ?_
          | refine L_v (opv_pick rfl rfl rfl) rfl ?_
        refine L_v (opv_assign rfl) rfl ?_
        refine L_nil ?_
        refine K_then ?_
        refine J_ret ?_
        exact K_ret1 rfl rfl () trivial (rfl) Ent.take


theorem BitsBack_law (W : World) (A : Option Addr) (len c : Nat) (xs : List It) (ok : ∀ x ∈ xs, okIt W x) (h : ArrIn W encIt 5 A len xs) (hl : len ≤ c) (hc : c ≤ maxLen) : FSpec Try.prog 13 #[.slice A len c] (old W) (fun _ : Unit => True) (fun _ => .bool true) (fun _ => old W) := by
  have e := h.1
  subst e
  have hn : xs.length ≤ 9223372036854775807 := by unfold maxLen at hc; omega
  by_cases hb : few xs
  · exact BB_ok W A c xs (RdS.old h) hn ok hb
  · exact BB_no W A c xs (RdS.old h) hn hb

end Go.Proofs.Ytdmlcnecildliaa
namespace Go.Proofs.Ytdmlcnecildliaa.bitsBack
open Go.ChangeShapes Go.WideShapes Go.ChangeAt Go.RowKit Go.SLA
open Go.ChangeMaps (open_string shut_string)
set_option linter.unusedVariables false
theorem own : ownKnob Try.prog.godebug = none := by kernel_rfl
theorem laidOut : laidOutB Try.prog = true := by kernel_rfl
set_option maxRecDepth 100000 in
theorem lifted (os : Os) (started : os.Started) (H : Type) (enc : TypeId × Value → H) :
    ReturnsInHanded {} Try.checked os 13 .any (Rows.bitsBackSpec.pre6 enc Try.prog Try.f13 Rows.bitsBackRow.domain false) (Rows.bitsBackSpec.post enc Try.prog Try.f13 false true false false) := by
  refine returnsInHanded_of_change_sized (C := Try.checked) own started (by kernel_rfl) Try.func13
    (ChangeSpec.witness6 (enc := enc) (C := Try.checked) false ⟨#[], #[.slice none 0 0], []⟩ 8 (by kernel_rfl) (by kernel_rfl) (by kernel_rfl) (by kernel_rfl)) ?_
  intro W base args ds gs before hval0 hW hcnd hsz0 _
  have hsz : (DataW.weightsEach Try.prog (Try.f13.params.toList ++ Rows.bitsBackSpec.plain.varTypes Try.prog) (ds ++ gs)).all (· ≤ reachBytes) = true := hsz0
  have hval : ∀ (j : Nat) t v, Try.f13.params[j]? = some t → args[j]? = some v → Value.okWide Try.prog W .any base t v := hval0
  have hW' := hW
  obtain ⟨p, q, hA0, hV, rfl, hfz, hnd⟩ := hW
  have hA : DataW.TrodAll enc Try.prog W 0 (fun _ => true) true Try.f13.params.toList args.toList ds p := hA0
  rw [Try.params13] at hA hval hsz
  obtain ⟨v0, vs0, d0, ds0, p0, q0, hargs, rfl, rfl, h0, r0⟩ := trodAll_cons hA
  obtain ⟨rfl, rfl, rfl⟩ := trodAll_nil r0
  obtain rfl : args = #[v0] := by cases args; simp_all
  obtain ⟨rfl, rfl⟩ := trodVars_none hV
  have k0 := h0
  have lt0 : ∀ x ∈ p0, x.block < W.heap.size := by obtain ⟨m, hm⟩ := k0; exact DataW.trod_lt m _ _ _ hm
  obtain ⟨A0, len0, cap0, xs0, rfl, hl0, hc0, harr0, hok0⟩ := open_arrG (en := encIt) (ok := okIt W) (m := 5) Try.underlying38 (by kernel_rfl) (by decide) encIt_len (fun n cs y hh => dec_it Try.underlying49 (by kernel_rfl) rfl (by kernel_rfl) Try.underlying3 Try.underlying3 Try.underlying9 Try.underlying47 Try.underlying47 Try.underlying3 (by kernel_rfl) hh) (hval 0 38 v0 rfl rfl) h0
  clear hA0 hval0 hsz0 hsz
  refine (FSpec.law (BitsBack_law W A0 len0 cap0 xs0 hok0 harr0 hl0 hc0)).mono fun e W' ⟨he, bel⟩ => ?_
  subst he
  exact ⟨_, rfl, _, _, _, [], _, [], hW', trodAll_mk1 (shut_bool Try.underlying4 _), (trodAll_cons_mk (Below.trod laidOut (by kernel_rfl) (of_decide_eq_true (by kernel_rfl)) k0 bel lt0) trodAll_mk0), rfl, bel.frame _, fun h => by cases h⟩
theorem over : Rows.bitsBackRow.holds Try.pinned (OpenSpec.ofChange Rows.bitsBackSpec) :=
  OpenClaim.holds_of_wide 13 Try.f13 rfl rfl rfl rfl rfl rfl rfl ⟨rfl, rfl, rfl, rfl, rfl⟩ rfl rfl rfl rfl rfl (by kernel_rfl) Try.func13 (by kernel_rfl)
    (of_decide_eq_true (by kernel_rfl)) (by unfold Func.isWrapper; first | (rw [if_pos (by decide +kernel)]; kernel_rfl) | (rw [if_neg (by decide +kernel)]; exact ⟨rfl, rfl⟩))
    (fun os started H enc _ => lifted os started H enc)
end Go.Proofs.Ytdmlcnecildliaa.bitsBack
namespace Go.Proofs.Ytdmlcnecildliaa
theorem bitsBack_holds : Rows.BitsBackSaid := bitsBack.over
#print axioms bitsBack_holds
end Go.Proofs.Ytdmlcnecildliaa
namespace Go.Proofs.Ytdmlcnecildliaa
open Go.SLA
end Go.Proofs.Ytdmlcnecildliaa
