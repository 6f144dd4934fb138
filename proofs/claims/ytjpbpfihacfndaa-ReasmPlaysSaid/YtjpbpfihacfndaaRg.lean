/- The laws ReasmNil and ReasmWaits of the package pitotlaw09 hold for every input: a nil table has nothing; a packet that is begun is given up just when more than so many ticks have passed. No condition. -/
import Derived.Test.YtjpbpfihacfndaaRf
import Derived.Test.YtjpbpfihacfndaaH
namespace Go.Proofs.Ytjpbpfihacfndaa
open Go.SLA
set_option maxRecDepth 100000
set_option linter.unusedVariables false
set_option linter.unusedSimpArgs false
attribute [local irreducible] J L K QL Rg FSpec OpV OpX Rd Back

def pa0 : Pk := ⟨3, true, 0, 0, 0, 0, 0, 0, 0, 0, 0, 0, 0, ⟨#[49, 50, 51, 52, 53, 54, 55, 56]⟩⟩
def pa1 : Pk := ⟨3, false, 1, 0, 0, 0, 0, 0, 0, 0, 0, 0, 0, ⟨#[57]⟩⟩
def pw : Pk := ⟨3, false, 0, 0, 0, 0, 0, 0, 0, 0, 0, 0, 0, ⟨#[49, 50, 51, 52, 53, 54, 55, 56, 57]⟩⟩
def bg (t : Int) : Bg := ⟨kyOf pa0, t, pa0.data⟩
theorem ld0 {j : Nat} {u : Value} (h : [.int .i64 pa0.id, .bool pa0.more, .int .i64 pa0.off, .int .i64 pa0.ttl, .int .i64 pa0.proto, .int .u8 pa0.s0, .int .u8 pa0.s1, .int .u8 pa0.s2, .int .u8 pa0.s3, .int .u8 pa0.d0, .int .u8 pa0.d1, .int .u8 pa0.d2, .int .u8 pa0.d3, .string pa0.data][j]? = some u) : (encPk pa0 ++ encPk pa1)[0 + j]? = some u := by
  have hj : j < 14 := by
    rcases Nat.lt_or_ge j 14 with h' | h'
    · exact h'
    · rw [List.getElem?_eq_none h'] at h; cases h
  rw [Nat.zero_add, List.getElem?_append_left (by exact hj)]
  exact h
theorem ld1 {j : Nat} {u : Value} (h : [.int .i64 pa1.id, .bool pa1.more, .int .i64 pa1.off, .int .i64 pa1.ttl, .int .i64 pa1.proto, .int .u8 pa1.s0, .int .u8 pa1.s1, .int .u8 pa1.s2, .int .u8 pa1.s3, .int .u8 pa1.d0, .int .u8 pa1.d1, .int .u8 pa1.d2, .int .u8 pa1.d3, .string pa1.data][j]? = some u) : (encPk pa0 ++ encPk pa1)[14 + j]? = some u := by
  rw [List.getElem?_append_right (by show 14 ≤ 14 + j; omega)]
  show (encPk pa1)[14 + j - 14]? = some u
  rw [Nat.add_sub_cancel_left]
  exact h
theorem tok0 : TOk 0 ts0 := ⟨⟨Int.le_refl _, by decide⟩, fun b hb => (by cases hb), List.nodup_nil, Int.le_refl _, Int.le_refl _⟩
/-- The first part at a tick, on a table that holds nothing. -/
theorem putA {m wt now n0 d : Int} (hm : 1 ≤ m) (h : timC n0 now = 0) : TS.put ⟨[], n0, d⟩ m wt now pa0 = ((pkz, false, 0), ⟨[bg now], now, d⟩) := by
  rw [put_begin h rfl rfl]
  have e : TS.pass ⟨[], n0, d⟩ wt now = ⟨[], now, d⟩ := pass_stop (fun b hb => by cases hb)
  rw [e]
  have hf : TS.free ⟨[], now, d⟩ (kyOf pa0) = ⟨[], now, d⟩ := if_neg (fun h => by cases h)
  have hs : sndC pa0 0 = 0 := by decide +kernel
  rw [begn_ok hs (by rw [hf]; show ¬ m ≤ ((0 : Nat) : Int); omega), hf]
  rfl
theorem snd1 : sndC pa1 8 = 0 := by decide +kernel
theorem cat1 : pa0.data ++ pa1.data = pw.data := by decide +kernel
/-- The second part, soon enough. -/
theorem putB {m wt now t d : Int} (h : timC t now = 0) (hw : ¬ wt < now - t) : TS.put ⟨[bg t], t, d⟩ m wt now pa1 = ((pw, true, 0), ⟨[], now, d⟩) := by
  have e : TS.pass ⟨[bg t], t, d⟩ wt now = ⟨[bg t], now, d⟩ := pass_stop (fun b hb => by cases hb; exact hw)
  have hf : bfind (TS.pass ⟨[bg t], t, d⟩ wt now).q (kyOf pa1) = some (bg t) := by
    rw [e]
    unfold bfind
    rw [List.find?_cons]
    rw [show decide ((bg t).k = kyOf pa1) = true from decide_eq_true rfl]
  rw [put_some h (by decide) hf, if_neg (fun n => n snd1), if_neg (by decide), e]
  have hw : wob [bg t] (kyOf pa1) = [] := by
    unfold wob
    rw [List.filter_cons, if_neg (by rw [show decide ((bg t).k = kyOf pa1) = true from decide_eq_true rfl]; decide)]
    rfl
  rw [hw]
  show (((⟨3, false, 0, 0, 0, 0, 0, 0, 0, 0, 0, 0, 0, pa0.data ++ pa1.data⟩ : Pk), true, (0 : Int)), _) = _
  rw [cat1]
  rfl
/-- The second part, too late. -/
theorem putC {m wt now t d : Int} (h : timC t now = 0) (hw : wt < now - t) : TS.put ⟨[bg t], t, d⟩ m wt now pa1 = ((pkz, false, 25), ⟨[], now, d + 1⟩) := by
  have e : TS.pass ⟨[bg t], t, d⟩ wt now = ⟨[], now, d + 1⟩ := (pass_go hw).trans (pass_stop (fun b hb => by cases hb))
  rw [put_none h (by decide) (by rw [e]; rfl), e]
theorem tokA {n : Nat} {now d : Int} (h1 : 0 ≤ now ∧ now ≤ 1125899906842624) (h2 : 0 ≤ d) (h3 : d + 1 ≤ n) : TOk n ⟨[bg now], now, d⟩ := ⟨h1, fun b hb => by rw [List.mem_singleton.1 hb]; exact ⟨h1, (by show pa0.data.size ≤ 8200; decide)⟩, (by show [kyOf pa0].Nodup; simp), h2, h3⟩
theorem tokE {n : Nat} {now d : Int} (h1 : 0 ≤ now ∧ now ≤ 1125899906842624) (h2 : 0 ≤ d) (h3 : d ≤ n) : TOk n ⟨[], now, d⟩ := ⟨h1, fun b hb => (by cases hb), List.nodup_nil, h2, (by show d + ((0 : Nat) : Int) ≤ _; omega)⟩
theorem New_okE (a c : Int) (ha : 1 ≤ a ∧ a ≤ 64) (hc : 0 ≤ c ∧ c ≤ 1125899906842624) : FSpec Try.prog 27 #[.int .i64 a, .int .i64 c] emp (fun _ : Nat => True) (fun p => .tuple #[.pointer (some (ad p 0)), .int .i64 0]) (fun p => TabP p a c ⟨[], 0, 0⟩) := New_ok a c ha hc
theorem tim0 {a b : Int} (h : a ≤ b) (hb : b ≤ 1125899906842624) : timC a b = 0 := by unfold timC; rw [if_neg (by omega), if_neg (by omega)]
theorem pspA (tp : Nat) (m wt now n0 d : Int) (hm : 1 ≤ m) (hwt : 0 ≤ wt ∧ wt ≤ 1125899906842624) (h0 : 0 ≤ n0 ∧ n0 ≤ now ∧ now ≤ 1125899906842624) (hd : 0 ≤ d ∧ d ≤ 1000) : FSpec Try.prog 32 #[.pointer (some (ad tp 0)), .int .i64 now, .agg [.int .i64 pa0.id, .bool pa0.more, .int .i64 pa0.off, .int .i64 pa0.ttl, .int .i64 pa0.proto, .int .u8 pa0.s0, .int .u8 pa0.s1, .int .u8 pa0.s2, .int .u8 pa0.s3, .int .u8 pa0.d0, .int .u8 pa0.d1, .int .u8 pa0.d2, .int .u8 pa0.d3, .string pa0.data].toArray] (TabP tp m wt ⟨[], n0, d⟩) (fun _ : Unit => True) (fun _ => .tuple #[.agg [.int .i64 0, .bool false, .int .i64 0, .int .i64 0, .int .i64 0, .int .u8 0, .int .u8 0, .int .u8 0, .int .u8 0, .int .u8 0, .int .u8 0, .int .u8 0, .int .u8 0, .string ⟨#[]⟩].toArray, .bool false, .int .i64 0]) (fun _ => TabP tp m wt ⟨[bg now], now, d⟩) := by
  have h := tim0 h0.2.1 h0.2.2
  have := Put_any tp m wt ⟨[], n0, d⟩ now pa0 1000 (tokE ⟨h0.1, by omega⟩ hd.1 hd.2) (by decide) hwt (by decide)
  rw [putA hm h] at this
  exact this
theorem pspB (tp : Nat) (m wt now t d : Int) (hwt : 0 ≤ wt ∧ wt ≤ 1125899906842624) (h0 : 0 ≤ t ∧ t ≤ now ∧ now ≤ 1125899906842624) (hd : 0 ≤ d ∧ d ≤ 999) (hw : ¬ wt < now - t) : FSpec Try.prog 32 #[.pointer (some (ad tp 0)), .int .i64 now, .agg [.int .i64 pa1.id, .bool pa1.more, .int .i64 pa1.off, .int .i64 pa1.ttl, .int .i64 pa1.proto, .int .u8 pa1.s0, .int .u8 pa1.s1, .int .u8 pa1.s2, .int .u8 pa1.s3, .int .u8 pa1.d0, .int .u8 pa1.d1, .int .u8 pa1.d2, .int .u8 pa1.d3, .string pa1.data].toArray] (TabP tp m wt ⟨[bg t], t, d⟩) (fun _ : Unit => True) (fun _ => .tuple #[.agg [.int .i64 pw.id, .bool pw.more, .int .i64 pw.off, .int .i64 pw.ttl, .int .i64 pw.proto, .int .u8 pw.s0, .int .u8 pw.s1, .int .u8 pw.s2, .int .u8 pw.s3, .int .u8 pw.d0, .int .u8 pw.d1, .int .u8 pw.d2, .int .u8 pw.d3, .string pw.data].toArray, .bool true, .int .i64 0]) (fun _ => TabP tp m wt ⟨[], now, d⟩) := by
  have h := tim0 h0.2.1 h0.2.2
  have := Put_any tp m wt ⟨[bg t], t, d⟩ now pa1 1000 (tokA ⟨h0.1, by omega⟩ hd.1 (by omega)) (by decide) hwt (by decide)
  rw [putB h hw] at this
  exact this
theorem pspC (tp : Nat) (m wt now t d : Int) (hwt : 0 ≤ wt ∧ wt ≤ 1125899906842624) (h0 : 0 ≤ t ∧ t ≤ now ∧ now ≤ 1125899906842624) (hd : 0 ≤ d ∧ d ≤ 999) (hw : wt < now - t) : FSpec Try.prog 32 #[.pointer (some (ad tp 0)), .int .i64 now, .agg [.int .i64 pa1.id, .bool pa1.more, .int .i64 pa1.off, .int .i64 pa1.ttl, .int .i64 pa1.proto, .int .u8 pa1.s0, .int .u8 pa1.s1, .int .u8 pa1.s2, .int .u8 pa1.s3, .int .u8 pa1.d0, .int .u8 pa1.d1, .int .u8 pa1.d2, .int .u8 pa1.d3, .string pa1.data].toArray] (TabP tp m wt ⟨[bg t], t, d⟩) (fun _ : Unit => True) (fun _ => .tuple #[.agg [.int .i64 0, .bool false, .int .i64 0, .int .i64 0, .int .i64 0, .int .u8 0, .int .u8 0, .int .u8 0, .int .u8 0, .int .u8 0, .int .u8 0, .int .u8 0, .int .u8 0, .string ⟨#[]⟩].toArray, .bool false, .int .i64 25]) (fun _ => TabP tp m wt ⟨[], now, d + 1⟩) := by
  have h := tim0 h0.2.1 h0.2.2
  have := Put_any tp m wt ⟨[bg t], t, d⟩ now pa1 1000 (tokA ⟨h0.1, by omega⟩ hd.1 (by omega)) (by decide) hwt (by decide)
  rw [putC h hw] at this
  exact this

theorem parts_spec  : FSpec Try.prog 37 #[] (emp) (fun b : Nat => True) (fun b => .slice (some (ad b 0)) 2 2) (fun b => cel b (encPk pa0 ++ encPk pa1) 32) := by
  refine FSpec.enter' Try.func37 rfl Try.ntmps37 rfl fun σ F => ?_
  refine J_emp ?_
  refine J_seq ?_
  refine J_region ?_
  refine L_v (opv_assign rfl) rfl ?_
  refine L_nil ?_
  refine K_then ?_
  refine J_seq ?_
  refine J_region ?_
  refine L_v (opv_build rfl) rfl ?_
  refine L_v (opv_build rfl) rfl ?_
  refine L_x rfl (opx_buildSlice2 (m := 14) rfl rfl rfl rfl (by decide) (by decide) rfl) (fun b3 _ => ?_)
  refine L_v (opv_assign rfl) rfl ?_
  refine L_nil ?_
  refine K_then ?_
  refine J_ret ?_
  exact K_ret1 rfl rfl b3 trivial rfl (Ent.refl _)

theorem rawake_spec  : FSpec Try.prog 29 #[] (emp) (fun _ : Unit => True) (fun _ => .bool true) (fun _ => emp) := by
  refine FSpec.enter' Try.func29 rfl Try.ntmps29 rfl fun σ F => ?_
  refine J_emp ?_
  refine J_seq ?_
  refine J_region ?_
  refine L_v (opv_assign rfl) rfl ?_
  refine L_nil ?_
  refine K_then ?_
  refine J_seq ?_
  refine J_region ?_
  refine L_x rfl (opx_call0 (New_okE 4 5 (by decide) (by decide)) rfl rfl rfl) (fun tp _ => ?_)
  refine L_v (opv_move rfl) rfl ?_
  refine L_v (opv_extract rfl rfl) rfl ?_
  refine L_v (opv_extract rfl rfl) rfl ?_
  refine L_v (opv_assign rfl) rfl ?_
  refine L_v (opv_assign rfl) rfl ?_
  refine L_nil ?_
  refine K_then ?_
  refine J_seq ?_
  refine J_seq ?_
  refine J_region ?_
  refine L_v (opv_move rfl) rfl ?_
  refine L_v ((opv_neq rfl rfl).bool_f (by decide)) rfl ?_
  refine L_v (opv_move rfl) rfl ?_
  refine L_gon rfl rfl rfl ?_
  refine L_v (opv_move rfl) rfl ?_
  refine L_gon rfl rfl rfl ?_
  first
    | refine L_v (opv_eql rfl rfl) rfl ?_
    | refine L_v (opv_eqlS rfl rfl) rfl ?_
    | refine L_v (opv_eqlNil rfl rfl) rfl ?_
    | refine L_v (opv_eqlB rfl rfl) rfl ?_
  first
    | refine L_v (opv_pick_tt rfl rfl) rfl ?_
    | refine L_v (opv_pick_ff rfl rfl) rfl ?_
    | refine L_v (opv_pick rfl rfl rfl) rfl ?_
  refine L_nil ?_
  refine K_then ?_
  refine J_cond_false rfl ?_
  refine J_skip ?_
  refine K_then ?_
  refine J_seq ?_
  refine J_region ?_
  refine L_x rfl (opx_call0 (parts_spec) rfl rfl rfl) (fun b3 _ => ?_)
  refine L_v (opv_assign rfl) rfl ?_
  refine L_nil ?_
  refine K_then ?_
  refine J_seq ?_
  refine J_region ?_
  refine L_v (opv_move rfl) rfl ?_
  refine L_v (opv_move rfl) rfl ?_
  refine L_v ((opv_indexAddr rfl rfl (by decide)).as (v' := .pointer (some (ad b3 0))) rfl) rfl ?_
  refine L_v (opv_loadN (vs := [.int .i64 pa0.id, .bool pa0.more, .int .i64 pa0.off, .int .i64 pa0.ttl, .int .i64 pa0.proto, .int .u8 pa0.s0, .int .u8 pa0.s1, .int .u8 pa0.s2, .int .u8 pa0.s3, .int .u8 pa0.d0, .int .u8 pa0.d1, .int .u8 pa0.d2, .int .u8 pa0.d3, .string pa0.data]) rfl rfl (fun j u hj => Rd.look (l := encPk pa0 ++ encPk pa1) (ld0 hj))) rfl ?_
  refine L_x rfl (opx_call0 (pspA tp 4 5 0 0 0 (by decide) (by decide) (by decide) (by decide)) rfl rfl rfl) (fun _ _ => ?_)
  refine L_v (opv_move rfl) rfl ?_
  refine L_v (opv_extract (v := .agg [.int .i64 0, .bool false, .int .i64 0, .int .i64 0, .int .i64 0, .int .u8 0, .int .u8 0, .int .u8 0, .int .u8 0, .int .u8 0, .int .u8 0, .int .u8 0, .int .u8 0, .string ⟨#[]⟩].toArray) rfl rfl) rfl ?_
  refine L_v (opv_extract rfl rfl) rfl ?_
  refine L_v (opv_extract rfl rfl) rfl ?_
  refine L_x rfl (opx_alloc rfl) (fun b4 _ => ?_)
  refine L_x rfl (opx_store rfl rfl rfl (by simp [Value.oneCell'])) (fun _ _ => ?_)
  refine L_v (opv_assign rfl) rfl ?_
  refine L_v (opv_assign rfl) rfl ?_
  refine L_nil ?_
  refine K_then ?_
  refine J_seq ?_
  refine J_region ?_
  refine L_v (opv_move rfl) rfl ?_
  refine L_v (opv_move rfl) rfl ?_
  refine L_v ((opv_indexAddr rfl rfl (by decide)).as (v' := .pointer (some (ad b3 14))) rfl) rfl ?_
  refine L_v (opv_loadN (vs := [.int .i64 pa1.id, .bool pa1.more, .int .i64 pa1.off, .int .i64 pa1.ttl, .int .i64 pa1.proto, .int .u8 pa1.s0, .int .u8 pa1.s1, .int .u8 pa1.s2, .int .u8 pa1.s3, .int .u8 pa1.d0, .int .u8 pa1.d1, .int .u8 pa1.d2, .int .u8 pa1.d3, .string pa1.data]) rfl rfl (fun j u hj => Rd.look (l := encPk pa0 ++ encPk pa1) (ld1 hj))) rfl ?_
  refine L_x rfl (opx_call0 (pspB tp 4 5 1 0 0 (by decide) (by decide) (by decide) (by decide)) rfl rfl rfl) (fun _ _ => ?_)
  refine L_v (opv_move rfl) rfl ?_
  refine L_v (opv_extract (v := .agg [.int .i64 pw.id, .bool pw.more, .int .i64 pw.off, .int .i64 pw.ttl, .int .i64 pw.proto, .int .u8 pw.s0, .int .u8 pw.s1, .int .u8 pw.s2, .int .u8 pw.s3, .int .u8 pw.d0, .int .u8 pw.d1, .int .u8 pw.d2, .int .u8 pw.d3, .string pw.data].toArray) rfl rfl) rfl ?_
  refine L_v (opv_extract rfl rfl) rfl ?_
  refine L_v (opv_extract rfl rfl) rfl ?_
  refine L_x rfl (opx_alloc rfl) (fun b7 _ => ?_)
  refine L_x rfl (opx_store rfl rfl rfl (by simp [Value.oneCell'])) (fun _ _ => ?_)
  refine L_v (opv_assign rfl) rfl ?_
  refine L_v (opv_assign rfl) rfl ?_
  refine L_nil ?_
  refine K_then ?_
  refine J_seq ?_
  refine J_region ?_
  refine L_v (opv_move rfl) rfl ?_
  refine L_v (opv_move rfl) rfl ?_
  refine L_v ((opv_indexAddr rfl rfl (by decide)).as (v' := .pointer (some (ad b3 0))) rfl) rfl ?_
  refine L_v (opv_loadN (vs := [.int .i64 pa0.id, .bool pa0.more, .int .i64 pa0.off, .int .i64 pa0.ttl, .int .i64 pa0.proto, .int .u8 pa0.s0, .int .u8 pa0.s1, .int .u8 pa0.s2, .int .u8 pa0.s3, .int .u8 pa0.d0, .int .u8 pa0.d1, .int .u8 pa0.d2, .int .u8 pa0.d3, .string pa0.data]) rfl rfl (fun j u hj => Rd.look (l := encPk pa0 ++ encPk pa1) (ld0 hj))) rfl ?_
  refine L_x rfl (opx_call0 (pspA tp 4 5 10 1 0 (by decide) (by decide) (by decide) (by decide)) rfl rfl rfl) (fun _ _ => ?_)
  refine L_nil ?_
  refine K_then ?_
  refine J_seq ?_
  refine J_region ?_
  refine L_v (opv_move rfl) rfl ?_
  refine L_v (opv_move rfl) rfl ?_
  refine L_v ((opv_indexAddr rfl rfl (by decide)).as (v' := .pointer (some (ad b3 14))) rfl) rfl ?_
  refine L_v (opv_loadN (vs := [.int .i64 pa1.id, .bool pa1.more, .int .i64 pa1.off, .int .i64 pa1.ttl, .int .i64 pa1.proto, .int .u8 pa1.s0, .int .u8 pa1.s1, .int .u8 pa1.s2, .int .u8 pa1.s3, .int .u8 pa1.d0, .int .u8 pa1.d1, .int .u8 pa1.d2, .int .u8 pa1.d3, .string pa1.data]) rfl rfl (fun j u hj => Rd.look (l := encPk pa0 ++ encPk pa1) (ld1 hj))) rfl ?_
  refine L_x rfl (opx_call0 (pspC tp 4 5 16 10 0 (by decide) (by decide) (by decide) (by decide)) rfl rfl rfl) (fun _ _ => ?_)
  refine L_v (opv_move rfl) rfl ?_
  refine L_v (opv_extract (v := .agg [.int .i64 0, .bool false, .int .i64 0, .int .i64 0, .int .i64 0, .int .u8 0, .int .u8 0, .int .u8 0, .int .u8 0, .int .u8 0, .int .u8 0, .int .u8 0, .int .u8 0, .string ⟨#[]⟩].toArray) rfl rfl) rfl ?_
  refine L_v (opv_extract rfl rfl) rfl ?_
  refine L_v (opv_extract rfl rfl) rfl ?_
  refine L_x rfl (opx_alloc rfl) (fun b10 _ => ?_)
  refine L_x rfl (opx_store rfl rfl rfl (by simp [Value.oneCell'])) (fun _ _ => ?_)
  refine L_v (opv_assign rfl) rfl ?_
  refine L_v (opv_assign rfl) rfl ?_
  refine L_nil ?_
  refine K_then ?_
  refine J_seq ?_
  refine J_region ?_
  refine L_v (opv_move rfl) rfl ?_
  refine L_v (opv_not rfl) rfl ?_
  refine L_v (opv_move rfl) rfl ?_
  refine L_gon rfl rfl rfl ?_
  refine L_v (opv_move rfl) rfl ?_
  first
    | refine L_v (opv_pick_tt rfl rfl) rfl ?_
    | refine L_v (opv_pick_ff rfl rfl) rfl ?_
    | refine L_v (opv_pick rfl rfl rfl) rfl ?_
  refine L_v (opv_move rfl) rfl ?_
  refine L_gon rfl rfl rfl ?_
  first
    | refine L_v (opv_fieldAddr0 rfl) rfl ?_
    | refine L_v (opv_fieldAddr rfl) rfl ?_
  refine L_gon rfl rfl rfl ?_
  refine L_v (opv_load rfl (Rd.look rfl)) rfl ?_
  refine L_gon rfl rfl rfl ?_
  refine L_v ((opv_eqlS rfl rfl).bool_t rfl) rfl ?_
  first
    | refine L_v (opv_pick_tt rfl rfl) rfl ?_
    | refine L_v (opv_pick_ff rfl rfl) rfl ?_
    | refine L_v (opv_pick rfl rfl rfl) rfl ?_
  refine L_v (opv_move rfl) rfl ?_
  refine L_gon rfl rfl rfl ?_
  refine L_v (opv_move rfl) rfl ?_
  refine L_gon rfl rfl rfl ?_
  refine L_v (opv_not rfl) rfl ?_
  first
    | refine L_v (opv_pick_tt rfl rfl) rfl ?_
    | refine L_v (opv_pick_ff rfl rfl) rfl ?_
    | refine L_v (opv_pick rfl rfl rfl) rfl ?_
  refine L_v (opv_move rfl) rfl ?_
  refine L_gon rfl rfl rfl ?_
  refine L_v (opv_move rfl) rfl ?_
  refine L_gon rfl rfl rfl ?_
  refine L_v ((opv_eql rfl rfl).bool_t rfl) rfl ?_
  first
    | refine L_v (opv_pick_tt rfl rfl) rfl ?_
    | refine L_v (opv_pick_ff rfl rfl) rfl ?_
    | refine L_v (opv_pick rfl rfl rfl) rfl ?_
  refine L_v (opv_move rfl) rfl ?_
  refine L_gon rfl rfl rfl ?_
  refine L_v (opv_move rfl) rfl ?_
  refine L_gon rfl rfl rfl ?_
  refine L_x rfl (opx_call0 (Dropped_spec tp 4 5 ⟨[], 16, 0 + 1⟩) rfl rfl rfl) (fun _ _ => ?_)
  refine L_gon rfl rfl rfl ?_
  refine L_v ((opv_eql rfl rfl).bool_t rfl) rfl ?_
  first
    | refine L_v (opv_pick_tt rfl rfl) rfl ?_
    | refine L_v (opv_pick_ff rfl rfl) rfl ?_
    | refine L_v (opv_pick rfl rfl rfl) rfl ?_
  refine L_v (opv_assign rfl) rfl ?_
  refine L_nil ?_
  refine K_then ?_
  refine J_ret ?_
  exact K_ret1 rfl rfl () trivial (rfl) Ent.take

theorem ReasmNil_law (W : World) (now : Int) (p : Pk) : FSpec Try.prog 10 #[.int .i64 now, .agg (encPk p).toArray] (old W) (fun _ : Unit => True) (fun _ => .bool true) (fun _ => old W) := by
  refine FSpec.enter' Try.func10 rfl Try.ntmps10 rfl fun σ F => ?_
  refine J_seq ?_
  refine J_region ?_
  refine L_x rfl (opx_box (l := [.int .i64 p.id, .bool p.more, .int .i64 p.off, .int .i64 p.ttl, .int .i64 p.proto, .int .u8 p.s0, .int .u8 p.s1, .int .u8 p.s2, .int .u8 p.s3, .int .u8 p.d0, .int .u8 p.d1, .int .u8 p.d2, .int .u8 p.d3, .string p.data]) rfl rfl) (fun b3 _ => ?_)
  refine L_v (opv_assign rfl) rfl ?_
  refine L_nil ?_
  refine K_then ?_
  refine J_seq ?_
  refine J_seq ?_
  refine J_region ?_
  first
    | refine L_v (opv_fieldAddr0 rfl) rfl ?_
    | refine L_v (opv_fieldAddr rfl) rfl ?_
  refine L_v (opv_load rfl (Rd.look rfl)) rfl ?_
  first
    | refine L_v (opv_lenL rfl) rfl ?_
    | refine L_v (opv_lenS rfl) rfl ?_
  refine L_v (opv_gtr rfl rfl) rfl ?_
  refine L_nil ?_
  refine K_then ?_
  refine J_cond rfl (fun h1 => ?_) (fun h1 => ?_)
  · refine J_seq ?_
    refine J_region ?_
    refine L_x rfl (opx_call0 (rawake_spec) rfl rfl rfl) (fun _ _ => ?_)
    refine L_emp ?_
    refine L_v (opv_assign rfl) rfl ?_
    refine L_nil ?_
    refine K_then ?_
    refine J_ret ?_
    refine K_then_ret ?_
    exact K_ret1 rfl rfl () trivial (rfl) Ent.take
  · refine J_skip ?_
    refine K_then ?_
    refine J_seq ?_
    refine J_region ?_
    refine L_v (opv_assign rfl) rfl ?_
    refine L_nil ?_
    refine K_then ?_
    refine J_seq ?_
    refine J_region ?_
    refine L_v (opv_move rfl) rfl ?_
    refine L_v (opv_move rfl) rfl ?_
    refine L_v (opv_loadS rfl) rfl ?_
    refine L_x rfl (opx_call0 (Put_nil now p) rfl rfl rfl) (fun _ _ => ?_)
    refine L_emp ?_
    refine L_v (opv_move rfl) rfl ?_
    refine L_v (opv_extract (v := .agg [.int .i64 0, .bool false, .int .i64 0, .int .i64 0, .int .i64 0, .int .u8 0, .int .u8 0, .int .u8 0, .int .u8 0, .int .u8 0, .int .u8 0, .int .u8 0, .int .u8 0, .string ⟨#[]⟩].toArray) rfl rfl) rfl ?_
    refine L_v (opv_extract rfl rfl) rfl ?_
    refine L_v (opv_extract rfl rfl) rfl ?_
    refine L_x rfl (opx_alloc rfl) (fun b6 _ => ?_)
    refine L_x rfl (opx_store rfl rfl rfl (by simp [Value.oneCell'])) (fun _ _ => ?_)
    refine L_v (opv_assign rfl) rfl ?_
    refine L_v (opv_assign rfl) rfl ?_
    refine L_nil ?_
    refine K_then ?_
    refine J_seq ?_
    refine J_region ?_
    refine L_v (opv_loadS rfl) rfl ?_
    refine L_v (opv_build rfl) rfl ?_
    refine L_v ((opv_eqlF rfl rfl (by simp [Shape, CK.sh]) (by simp [Shape, CK.sh])).bool_t rfl) rfl ?_
    refine L_v (opv_move rfl) rfl ?_
    refine L_gon rfl rfl rfl ?_
    refine L_v (opv_move rfl) rfl ?_
    refine L_gon rfl rfl rfl ?_
    refine L_v (opv_not rfl) rfl ?_
    first
      | refine L_v (opv_pick_tt rfl rfl) rfl ?_
      | refine L_v (opv_pick_ff rfl rfl) rfl ?_
      | refine L_v (opv_pick rfl rfl rfl) rfl ?_
    refine L_v (opv_move rfl) rfl ?_
    refine L_gon rfl rfl rfl ?_
    refine L_v (opv_move rfl) rfl ?_
    refine L_gon rfl rfl rfl ?_
    refine L_v ((opv_eql rfl rfl).bool_t rfl) rfl ?_
    first
      | refine L_v (opv_pick_tt rfl rfl) rfl ?_
      | refine L_v (opv_pick_ff rfl rfl) rfl ?_
      | refine L_v (opv_pick rfl rfl rfl) rfl ?_
    refine L_v (opv_move rfl) rfl ?_
    refine L_gon rfl rfl rfl ?_
    refine L_v (opv_move rfl) rfl ?_
    refine L_gon rfl rfl rfl ?_
    refine L_v (opv_move rfl) rfl ?_
    refine L_gon rfl rfl rfl ?_
    refine L_x rfl (opx_call0 (Pass_nil now) rfl rfl rfl) (fun _ _ => ?_)
    refine L_emp ?_
    refine L_gon rfl rfl rfl ?_
    refine L_v ((opv_eql rfl rfl).bool_t rfl) rfl ?_
    first
      | refine L_v (opv_pick_tt rfl rfl) rfl ?_
      | refine L_v (opv_pick_ff rfl rfl) rfl ?_
      | refine L_v (opv_pick rfl rfl rfl) rfl ?_
    refine L_v (opv_move rfl) rfl ?_
    refine L_gon rfl rfl rfl ?_
    refine L_v (opv_move rfl) rfl ?_
    refine L_gon rfl rfl rfl ?_
    refine L_x rfl (opx_call0 (Keys_nil) rfl rfl rfl) (fun _ _ => ?_)
    refine L_emp ?_
    refine L_gon rfl rfl rfl ?_
    first
      | refine L_v (opv_lenL rfl) rfl ?_
      | refine L_v (opv_lenS rfl) rfl ?_
    refine L_gon rfl rfl rfl ?_
    refine L_v ((opv_eql rfl rfl).bool_t rfl) rfl ?_
    first
      | refine L_v (opv_pick_tt rfl rfl) rfl ?_
      | refine L_v (opv_pick_ff rfl rfl) rfl ?_
      | refine L_v (opv_pick rfl rfl rfl) rfl ?_
    refine L_v (opv_move rfl) rfl ?_
    refine L_gon rfl rfl rfl ?_
    refine L_v (opv_move rfl) rfl ?_
    refine L_gon rfl rfl rfl ?_
    refine L_x rfl (opx_call0 (Dropped_nil) rfl rfl rfl) (fun _ _ => ?_)
    refine L_emp ?_
    refine L_gon rfl rfl rfl ?_
    refine L_v ((opv_eql rfl rfl).bool_t rfl) rfl ?_
    first
      | refine L_v (opv_pick_tt rfl rfl) rfl ?_
      | refine L_v (opv_pick_ff rfl rfl) rfl ?_
      | refine L_v (opv_pick rfl rfl rfl) rfl ?_
    refine L_v (opv_move rfl) rfl ?_
    refine L_gon rfl rfl rfl ?_
    refine L_x rfl (opx_call0 (rawake_spec) rfl rfl rfl) (fun _ _ => ?_)
    refine L_emp ?_
    first
      | refine L_v (opv_pick_tt rfl rfl) rfl ?_
      | refine L_v (opv_pick_ff rfl rfl) rfl ?_
      | refine L_v (opv_pick rfl rfl rfl) rfl ?_
    refine L_v (opv_assign rfl) rfl ?_
    refine L_nil ?_
    refine K_then ?_
    refine J_ret ?_
    exact K_ret1 rfl rfl () trivial (rfl) Ent.take

theorem RW_bad (W : World) (wt now : Int) (h : ¬ ((0 ≤ wt ∧ wt ≤ 1000000) ∧ 0 ≤ now ∧ now ≤ 2000000)) : FSpec Try.prog 9 #[.int .i64 wt, .int .i64 now] (old W) (fun _ : Unit => True) (fun _ => .bool true) (fun _ => old W) := by
  refine FSpec.enter' Try.func9 rfl Try.ntmps9 rfl fun σ F => ?_
  refine J_seq ?_
  refine J_region ?_
  refine L_v (opv_assign rfl) rfl ?_
  refine L_nil ?_
  refine K_then ?_
  refine J_seq ?_
  refine J_seq ?_
  refine J_region ?_
  refine L_v (opv_move rfl) rfl ?_
  refine L_v (opv_lss rfl rfl) rfl ?_
  refine L_v (opv_move rfl) rfl ?_
  refine L_gf rfl rfl (fun h1 => ?_) (fun h1 => ?_) (fun _ h => by cases h; rfl)
  · refine L_v (opv_move rfl) rfl ?_
    refine L_gf_on h1 rfl rfl ?_
    refine L_v (opv_gtr rfl rfl) rfl ?_
    refine L_v (opv_pick_f rfl h1 rfl) rfl ?_
    refine L_v (opv_move rfl) rfl ?_
    refine L_gf rfl rfl (fun h2 => ?_) (fun h2 => ?_) (fun _ h => by cases h; rfl)
    · refine L_v (opv_move rfl) rfl ?_
      refine L_gf_on h2 rfl rfl ?_
      refine L_v (opv_lss rfl rfl) rfl ?_
      refine L_v (opv_pick_f rfl h2 rfl) rfl ?_
      refine L_v (opv_move rfl) rfl ?_
      refine L_gf rfl rfl (fun h3 => ?_) (fun h3 => ?_) (fun _ h => by cases h; rfl)
      · refine L_v (opv_move rfl) rfl ?_
        refine L_gf_on h3 rfl rfl ?_
        refine L_v (opv_gtr rfl rfl) rfl ?_
        refine L_v (opv_pick_f rfl h3 rfl) rfl ?_
        refine L_nil ?_
        refine K_then ?_
        refine J_cond rfl (fun h4 => ?_) (fun h4 => (by exfalso; omega))
        refine J_seq ?_
        refine J_region ?_
        refine L_x rfl (opx_call0 (rawake_spec) rfl rfl rfl) (fun _ _ => ?_)
        refine L_emp ?_
        refine L_v (opv_assign rfl) rfl ?_
        refine L_nil ?_
        refine K_then ?_
        refine J_ret ?_
        refine K_then_ret ?_
        exact K_ret1 rfl rfl () trivial (rfl) Ent.take
      · refine L_gf_off h3 rfl rfl ?_ (fun _ h => by cases h; rfl)
        refine L_v (opv_pick_t rfl h3 rfl) rfl ?_
        refine L_nil ?_
        refine K_then ?_
        refine J_cond_true rfl ?_
        refine J_seq ?_
        refine J_region ?_
        refine L_x rfl (opx_call0 (rawake_spec) rfl rfl rfl) (fun _ _ => ?_)
        refine L_emp ?_
        refine L_v (opv_assign rfl) rfl ?_
        refine L_nil ?_
        refine K_then ?_
        refine J_ret ?_
        refine K_then_ret ?_
        exact K_ret1 rfl rfl () trivial (rfl) Ent.take
    · refine L_gf_off h2 rfl rfl ?_ (fun _ h => by cases h; rfl)
      refine L_v (opv_pick_t rfl h2 rfl) rfl ?_
      refine L_v (opv_move rfl) rfl ?_
      refine L_gskip rfl rfl rfl ?_ (fun _ h => by cases h; rfl)
      refine L_gskip rfl rfl rfl ?_ (fun _ h => by cases h; rfl)
      first
        | refine L_v (opv_pick_tt rfl rfl) rfl ?_
        | refine L_v (opv_pick_ff rfl rfl) rfl ?_
        | refine L_v (opv_pick rfl rfl rfl) rfl ?_
      refine L_nil ?_
      refine K_then ?_
      refine J_cond_true rfl ?_
      refine J_seq ?_
      refine J_region ?_
      refine L_x rfl (opx_call0 (rawake_spec) rfl rfl rfl) (fun _ _ => ?_)
      refine L_emp ?_
      refine L_v (opv_assign rfl) rfl ?_
      refine L_nil ?_
      refine K_then ?_
      refine J_ret ?_
      refine K_then_ret ?_
      exact K_ret1 rfl rfl () trivial (rfl) Ent.take
  · refine L_gf_off h1 rfl rfl ?_ (fun _ h => by cases h; rfl)
    refine L_v (opv_pick_t rfl h1 rfl) rfl ?_
    refine L_v (opv_move rfl) rfl ?_
    refine L_gskip rfl rfl rfl ?_ (fun _ h => by cases h; rfl)
    refine L_gskip rfl rfl rfl ?_ (fun _ h => by cases h; rfl)
    first
      | refine L_v (opv_pick_tt rfl rfl) rfl ?_
      | refine L_v (opv_pick_ff rfl rfl) rfl ?_
      | refine L_v (opv_pick rfl rfl rfl) rfl ?_
    refine L_v (opv_move rfl) rfl ?_
    refine L_gskip rfl rfl rfl ?_ (fun _ h => by cases h; rfl)
    refine L_gskip rfl rfl rfl ?_ (fun _ h => by cases h; rfl)
    first
      | refine L_v (opv_pick_tt rfl rfl) rfl ?_
      | refine L_v (opv_pick_ff rfl rfl) rfl ?_
      | refine L_v (opv_pick rfl rfl rfl) rfl ?_
    refine L_nil ?_
    refine K_then ?_
    refine J_cond_true rfl ?_
    refine J_seq ?_
    refine J_region ?_
    refine L_x rfl (opx_call0 (rawake_spec) rfl rfl rfl) (fun _ _ => ?_)
    refine L_emp ?_
    refine L_v (opv_assign rfl) rfl ?_
    refine L_nil ?_
    refine K_then ?_
    refine J_ret ?_
    refine K_then_ret ?_
    exact K_ret1 rfl rfl () trivial (rfl) Ent.take

theorem RW_early (W : World) (wt now : Int) (h1 : 0 ≤ wt ∧ wt ≤ 1000000) (h2 : 0 ≤ now ∧ now ≤ 2000000) (h3 : now < 5) : FSpec Try.prog 9 #[.int .i64 wt, .int .i64 now] (old W) (fun _ : Unit => True) (fun _ => .bool true) (fun _ => old W) := by
  have htc : timC (5 : Int) now = 24 := by unfold timC; rw [if_neg (by omega), if_pos h3]
  refine FSpec.enter' Try.func9 rfl Try.ntmps9 rfl fun σ F => ?_
  refine J_seq ?_
  refine J_region ?_
  refine L_v (opv_assign rfl) rfl ?_
  refine L_nil ?_
  refine K_then ?_
  refine J_seq ?_
  refine J_seq ?_
  refine J_region ?_
  refine L_v (opv_move rfl) rfl ?_
  refine L_v ((opv_lss rfl rfl).bool_f (by omega)) rfl ?_
  refine L_v (opv_move rfl) rfl ?_
  refine L_gon rfl rfl rfl ?_
  refine L_v (opv_move rfl) rfl ?_
  refine L_gon rfl rfl rfl ?_
  refine L_v ((opv_gtr rfl rfl).bool_f (by omega)) rfl ?_
  first
    | refine L_v (opv_pick_tt rfl rfl) rfl ?_
    | refine L_v (opv_pick_ff rfl rfl) rfl ?_
    | refine L_v (opv_pick rfl rfl rfl) rfl ?_
  refine L_v (opv_move rfl) rfl ?_
  refine L_gon rfl rfl rfl ?_
  refine L_v (opv_move rfl) rfl ?_
  refine L_gon rfl rfl rfl ?_
  refine L_v ((opv_lss rfl rfl).bool_f (by omega)) rfl ?_
  first
    | refine L_v (opv_pick_tt rfl rfl) rfl ?_
    | refine L_v (opv_pick_ff rfl rfl) rfl ?_
    | refine L_v (opv_pick rfl rfl rfl) rfl ?_
  refine L_v (opv_move rfl) rfl ?_
  refine L_gon rfl rfl rfl ?_
  refine L_v (opv_move rfl) rfl ?_
  refine L_gon rfl rfl rfl ?_
  refine L_v ((opv_gtr rfl rfl).bool_f (by omega)) rfl ?_
  first
    | refine L_v (opv_pick_tt rfl rfl) rfl ?_
    | refine L_v (opv_pick_ff rfl rfl) rfl ?_
    | refine L_v (opv_pick rfl rfl rfl) rfl ?_
  refine L_nil ?_
  refine K_then ?_
  refine J_cond_false rfl ?_
  refine J_skip ?_
  refine K_then ?_
  refine J_seq ?_
  refine J_region ?_
  refine L_v (opv_move rfl) rfl ?_
  refine L_x rfl (opx_call0 (New_okE 1 wt (by decide) (by omega)) rfl rfl rfl) (fun tp _ => ?_)
  refine L_v (opv_move rfl) rfl ?_
  refine L_v (opv_extract rfl rfl) rfl ?_
  refine L_v (opv_extract rfl rfl) rfl ?_
  refine L_v (opv_assign rfl) rfl ?_
  refine L_v (opv_assign rfl) rfl ?_
  refine L_nil ?_
  refine K_then ?_
  refine J_seq ?_
  refine J_seq ?_
  refine J_region ?_
  refine L_v (opv_move rfl) rfl ?_
  refine L_v ((opv_neq rfl rfl).bool_f (by decide)) rfl ?_
  refine L_v (opv_move rfl) rfl ?_
  refine L_gon rfl rfl rfl ?_
  refine L_v (opv_move rfl) rfl ?_
  refine L_gon rfl rfl rfl ?_
  first
    | refine L_v (opv_eql rfl rfl) rfl ?_
    | refine L_v (opv_eqlS rfl rfl) rfl ?_
    | refine L_v (opv_eqlNil rfl rfl) rfl ?_
    | refine L_v (opv_eqlB rfl rfl) rfl ?_
  first
    | refine L_v (opv_pick_tt rfl rfl) rfl ?_
    | refine L_v (opv_pick_ff rfl rfl) rfl ?_
    | refine L_v (opv_pick rfl rfl rfl) rfl ?_
  refine L_nil ?_
  refine K_then ?_
  refine J_cond_false rfl ?_
  refine J_skip ?_
  refine K_then ?_
  refine J_seq ?_
  refine J_region ?_
  refine L_x rfl (opx_call0 (parts_spec) rfl rfl rfl) (fun b3 _ => ?_)
  refine L_v (opv_assign rfl) rfl ?_
  refine L_nil ?_
  refine K_then ?_
  refine J_seq ?_
  refine J_region ?_
  refine L_v (opv_move rfl) rfl ?_
  refine L_v (opv_move rfl) rfl ?_
  refine L_v ((opv_indexAddr rfl rfl (by decide)).as (v' := .pointer (some (ad b3 0))) rfl) rfl ?_
  refine L_v (opv_loadN (vs := [.int .i64 pa0.id, .bool pa0.more, .int .i64 pa0.off, .int .i64 pa0.ttl, .int .i64 pa0.proto, .int .u8 pa0.s0, .int .u8 pa0.s1, .int .u8 pa0.s2, .int .u8 pa0.s3, .int .u8 pa0.d0, .int .u8 pa0.d1, .int .u8 pa0.d2, .int .u8 pa0.d3, .string pa0.data]) rfl rfl (fun j u hj => Rd.look (l := encPk pa0 ++ encPk pa1) (ld0 hj))) rfl ?_
  refine L_x rfl (opx_call0 (pspA tp 1 wt 5 0 0 (by decide) (by omega) (by decide) (by decide)) rfl rfl rfl) (fun _ _ => ?_)
  refine L_nil ?_
  refine K_then ?_
  refine J_seq ?_
  refine J_seq ?_
  refine J_region ?_
  refine L_v (opv_move rfl) rfl ?_
  refine L_v ((opv_lss rfl rfl).bool_t h3) rfl ?_
  refine L_nil ?_
  refine K_then ?_
  refine J_cond_true rfl ?_
  refine J_seq ?_
  refine J_region ?_
  refine L_v (opv_move rfl) rfl ?_
  refine L_v (opv_move rfl) rfl ?_
  refine L_x rfl (opx_call0 (Pass_bad tp 1 wt ⟨[bg 5], 5, 0⟩ now (by show timC 5 now ≠ 0; rw [htc]; decide)) rfl rfl rfl) (fun _ _ => ?_)
  refine L_v ((opv_eql rfl rfl).bool_t htc) rfl ?_
  refine L_v (opv_move rfl) rfl ?_
  refine L_gon rfl rfl rfl ?_
  refine L_v (opv_move rfl) rfl ?_
  refine L_gon rfl rfl rfl ?_
  refine L_x rfl (opx_call0 (Keys_spec tp 1 wt ⟨[bg 5], 5, 0⟩ (by decide)) rfl rfl rfl) (fun z _ => ?_)
  refine L_gon rfl rfl rfl ?_
  first
    | refine L_v (opv_lenL rfl) rfl ?_
    | refine L_v (opv_lenS rfl) rfl ?_
  refine L_gon rfl rfl rfl ?_
  refine L_v ((opv_eql rfl rfl).bool_t rfl) rfl ?_
  first
    | refine L_v (opv_pick_tt rfl rfl) rfl ?_
    | refine L_v (opv_pick_ff rfl rfl) rfl ?_
    | refine L_v (opv_pick rfl rfl rfl) rfl ?_
  refine L_v (opv_move rfl) rfl ?_
  refine L_gon rfl rfl rfl ?_
  refine L_x rfl (opx_call0 (rawake_spec) rfl rfl rfl) (fun _ _ => ?_)
  refine L_emp ?_
  first
    | refine L_v (opv_pick_tt rfl rfl) rfl ?_
    | refine L_v (opv_pick_ff rfl rfl) rfl ?_
    | refine L_v (opv_pick rfl rfl rfl) rfl ?_
  refine L_v (opv_assign rfl) rfl ?_
  refine L_nil ?_
  refine K_then ?_
  refine J_ret ?_
  refine K_then_ret ?_
  exact K_ret1 rfl rfl () trivial (rfl) Ent.take

theorem RW_in (W : World) (wt now : Int) (h1 : 0 ≤ wt ∧ wt ≤ 1000000) (h2 : 0 ≤ now ∧ now ≤ 2000000) (h3 : 5 ≤ now) (h4 : now - 5 ≤ wt) : FSpec Try.prog 9 #[.int .i64 wt, .int .i64 now] (old W) (fun _ : Unit => True) (fun _ => .bool true) (fun _ => old W) := by
  refine FSpec.enter' Try.func9 rfl Try.ntmps9 rfl fun σ F => ?_
  refine J_seq ?_
  refine J_region ?_
  refine L_v (opv_assign rfl) rfl ?_
  refine L_nil ?_
  refine K_then ?_
  refine J_seq ?_
  refine J_seq ?_
  refine J_region ?_
  refine L_v (opv_move rfl) rfl ?_
  refine L_v ((opv_lss rfl rfl).bool_f (by omega)) rfl ?_
  refine L_v (opv_move rfl) rfl ?_
  refine L_gon rfl rfl rfl ?_
  refine L_v (opv_move rfl) rfl ?_
  refine L_gon rfl rfl rfl ?_
  refine L_v ((opv_gtr rfl rfl).bool_f (by omega)) rfl ?_
  first
    | refine L_v (opv_pick_tt rfl rfl) rfl ?_
    | refine L_v (opv_pick_ff rfl rfl) rfl ?_
    | refine L_v (opv_pick rfl rfl rfl) rfl ?_
  refine L_v (opv_move rfl) rfl ?_
  refine L_gon rfl rfl rfl ?_
  refine L_v (opv_move rfl) rfl ?_
  refine L_gon rfl rfl rfl ?_
  refine L_v ((opv_lss rfl rfl).bool_f (by omega)) rfl ?_
  first
    | refine L_v (opv_pick_tt rfl rfl) rfl ?_
    | refine L_v (opv_pick_ff rfl rfl) rfl ?_
    | refine L_v (opv_pick rfl rfl rfl) rfl ?_
  refine L_v (opv_move rfl) rfl ?_
  refine L_gon rfl rfl rfl ?_
  refine L_v (opv_move rfl) rfl ?_
  refine L_gon rfl rfl rfl ?_
  refine L_v ((opv_gtr rfl rfl).bool_f (by omega)) rfl ?_
  first
    | refine L_v (opv_pick_tt rfl rfl) rfl ?_
    | refine L_v (opv_pick_ff rfl rfl) rfl ?_
    | refine L_v (opv_pick rfl rfl rfl) rfl ?_
  refine L_nil ?_
  refine K_then ?_
  refine J_cond_false rfl ?_
  refine J_skip ?_
  refine K_then ?_
  refine J_seq ?_
  refine J_region ?_
  refine L_v (opv_move rfl) rfl ?_
  refine L_x rfl (opx_call0 (New_okE 1 wt (by decide) (by omega)) rfl rfl rfl) (fun tp _ => ?_)
  refine L_v (opv_move rfl) rfl ?_
  refine L_v (opv_extract rfl rfl) rfl ?_
  refine L_v (opv_extract rfl rfl) rfl ?_
  refine L_v (opv_assign rfl) rfl ?_
  refine L_v (opv_assign rfl) rfl ?_
  refine L_nil ?_
  refine K_then ?_
  refine J_seq ?_
  refine J_seq ?_
  refine J_region ?_
  refine L_v (opv_move rfl) rfl ?_
  refine L_v ((opv_neq rfl rfl).bool_f (by decide)) rfl ?_
  refine L_v (opv_move rfl) rfl ?_
  refine L_gon rfl rfl rfl ?_
  refine L_v (opv_move rfl) rfl ?_
  refine L_gon rfl rfl rfl ?_
  first
    | refine L_v (opv_eql rfl rfl) rfl ?_
    | refine L_v (opv_eqlS rfl rfl) rfl ?_
    | refine L_v (opv_eqlNil rfl rfl) rfl ?_
    | refine L_v (opv_eqlB rfl rfl) rfl ?_
  first
    | refine L_v (opv_pick_tt rfl rfl) rfl ?_
    | refine L_v (opv_pick_ff rfl rfl) rfl ?_
    | refine L_v (opv_pick rfl rfl rfl) rfl ?_
  refine L_nil ?_
  refine K_then ?_
  refine J_cond_false rfl ?_
  refine J_skip ?_
  refine K_then ?_
  refine J_seq ?_
  refine J_region ?_
  refine L_x rfl (opx_call0 (parts_spec) rfl rfl rfl) (fun b3 _ => ?_)
  refine L_v (opv_assign rfl) rfl ?_
  refine L_nil ?_
  refine K_then ?_
  refine J_seq ?_
  refine J_region ?_
  refine L_v (opv_move rfl) rfl ?_
  refine L_v (opv_move rfl) rfl ?_
  refine L_v ((opv_indexAddr rfl rfl (by decide)).as (v' := .pointer (some (ad b3 0))) rfl) rfl ?_
  refine L_v (opv_loadN (vs := [.int .i64 pa0.id, .bool pa0.more, .int .i64 pa0.off, .int .i64 pa0.ttl, .int .i64 pa0.proto, .int .u8 pa0.s0, .int .u8 pa0.s1, .int .u8 pa0.s2, .int .u8 pa0.s3, .int .u8 pa0.d0, .int .u8 pa0.d1, .int .u8 pa0.d2, .int .u8 pa0.d3, .string pa0.data]) rfl rfl (fun j u hj => Rd.look (l := encPk pa0 ++ encPk pa1) (ld0 hj))) rfl ?_
  refine L_x rfl (opx_call0 (pspA tp 1 wt 5 0 0 (by decide) (by omega) (by decide) (by decide)) rfl rfl rfl) (fun _ _ => ?_)
  refine L_nil ?_
  refine K_then ?_
  refine J_seq ?_
  refine J_seq ?_
  refine J_region ?_
  refine L_v (opv_move rfl) rfl ?_
  refine L_v ((opv_lss rfl rfl).bool_f (by omega)) rfl ?_
  refine L_nil ?_
  refine K_then ?_
  refine J_cond_false rfl ?_
  refine J_skip ?_
  refine K_then ?_
  refine J_seq ?_
  refine J_region ?_
  refine L_v (opv_move rfl) rfl ?_
  refine L_v (opv_move rfl) rfl ?_
  refine L_v (opv_move rfl) rfl ?_
  refine L_v ((opv_indexAddr rfl rfl (by decide)).as (v' := .pointer (some (ad b3 14))) rfl) rfl ?_
  refine L_v (opv_loadN (vs := [.int .i64 pa1.id, .bool pa1.more, .int .i64 pa1.off, .int .i64 pa1.ttl, .int .i64 pa1.proto, .int .u8 pa1.s0, .int .u8 pa1.s1, .int .u8 pa1.s2, .int .u8 pa1.s3, .int .u8 pa1.d0, .int .u8 pa1.d1, .int .u8 pa1.d2, .int .u8 pa1.d3, .string pa1.data]) rfl rfl (fun j u hj => Rd.look (l := encPk pa0 ++ encPk pa1) (ld1 hj))) rfl ?_
  refine L_x rfl (opx_call0 (pspB tp 1 wt now 5 0 (by omega) (by omega) (by decide) (by omega)) rfl rfl rfl) (fun _ _ => ?_)
  refine L_v (opv_move rfl) rfl ?_
  refine L_v (opv_extract (v := .agg [.int .i64 pw.id, .bool pw.more, .int .i64 pw.off, .int .i64 pw.ttl, .int .i64 pw.proto, .int .u8 pw.s0, .int .u8 pw.s1, .int .u8 pw.s2, .int .u8 pw.s3, .int .u8 pw.d0, .int .u8 pw.d1, .int .u8 pw.d2, .int .u8 pw.d3, .string pw.data].toArray) rfl rfl) rfl ?_
  refine L_v (opv_extract rfl rfl) rfl ?_
  refine L_v (opv_extract rfl rfl) rfl ?_
  refine L_x rfl (opx_alloc (zs := [.int .i64 0, .bool false, .int .i64 0, .int .i64 0, .int .i64 0, .int .u8 0, .int .u8 0, .int .u8 0, .int .u8 0, .int .u8 0, .int .u8 0, .int .u8 0, .int .u8 0, .string ⟨#[]⟩]) rfl) (fun b8 _ => ?_)
  refine L_x rfl (opx_store rfl rfl rfl (by simp [Value.oneCell'])) (fun _ _ => ?_)
  refine L_v (opv_assign rfl) rfl ?_
  refine L_v (opv_assign rfl) rfl ?_
  refine L_nil ?_
  refine K_then ?_
  refine J_seq ?_
  refine J_region ?_
  refine L_v (opv_move rfl) rfl ?_
  refine L_v (opv_move rfl) rfl ?_
  first
    | refine L_v (opv_sub64 rfl rfl (by omega)) rfl ?_
    | refine L_v (opv_sub rfl rfl) rfl ?_
  refine L_v (opv_move rfl) rfl ?_
  refine L_v ((opv_leq rfl rfl).bool_t (by omega)) rfl ?_
  refine L_v (opv_eqlB rfl rfl) rfl ?_
  refine L_v (opv_move rfl) rfl ?_
  refine L_gon rfl rfl rfl ?_
  refine L_v (opv_move rfl) rfl ?_
  refine L_gon rfl rfl rfl ?_
  refine L_v ((opv_eql rfl rfl).bool_t rfl) rfl ?_
  refine L_gon rfl rfl rfl ?_
  refine L_v (opv_move rfl) rfl ?_
  refine L_gon rfl rfl rfl ?_
  refine L_v (opv_eqlB rfl rfl) rfl ?_
  first
    | refine L_v (opv_pick_tt rfl rfl) rfl ?_
    | refine L_v (opv_pick_ff rfl rfl) rfl ?_
    | refine L_v (opv_pick rfl rfl rfl) rfl ?_
  refine L_v (opv_move rfl) rfl ?_
  refine L_gon rfl rfl rfl ?_
  refine L_v (opv_move rfl) rfl ?_
  refine L_gon rfl rfl rfl ?_
  refine L_x rfl (opx_call0 (Keys_spec tp 1 wt ⟨[], now, 0⟩ (by show (0 : Nat) ≤ 1000000; decide)) rfl rfl rfl) (fun z _ => ?_)
  refine L_gon rfl rfl rfl ?_
  first
    | refine L_v (opv_lenL rfl) rfl ?_
    | refine L_v (opv_lenS rfl) rfl ?_
  refine L_gon rfl rfl rfl ?_
  refine L_v ((opv_eql rfl rfl).bool_t rfl) rfl ?_
  first
    | refine L_v (opv_pick_tt rfl rfl) rfl ?_
    | refine L_v (opv_pick_ff rfl rfl) rfl ?_
    | refine L_v (opv_pick rfl rfl rfl) rfl ?_
  refine L_v (opv_move rfl) rfl ?_
  refine L_gon rfl rfl rfl ?_
  refine L_x rfl (opx_call0 (rawake_spec) rfl rfl rfl) (fun _ _ => ?_)
  refine L_emp ?_
  first
    | refine L_v (opv_pick_tt rfl rfl) rfl ?_
    | refine L_v (opv_pick_ff rfl rfl) rfl ?_
    | refine L_v (opv_pick rfl rfl rfl) rfl ?_
  refine L_v (opv_assign rfl) rfl ?_
  refine L_nil ?_
  refine K_then ?_
  refine J_ret ?_
  exact K_ret1 rfl rfl () trivial (rfl) Ent.take

theorem RW_out (W : World) (wt now : Int) (h1 : 0 ≤ wt ∧ wt ≤ 1000000) (h2 : 0 ≤ now ∧ now ≤ 2000000) (h3 : 5 ≤ now) (h4 : wt < now - 5) : FSpec Try.prog 9 #[.int .i64 wt, .int .i64 now] (old W) (fun _ : Unit => True) (fun _ => .bool true) (fun _ => old W) := by
  refine FSpec.enter' Try.func9 rfl Try.ntmps9 rfl fun σ F => ?_
  refine J_seq ?_
  refine J_region ?_
  refine L_v (opv_assign rfl) rfl ?_
  refine L_nil ?_
  refine K_then ?_
  refine J_seq ?_
  refine J_seq ?_
  refine J_region ?_
  refine L_v (opv_move rfl) rfl ?_
  refine L_v ((opv_lss rfl rfl).bool_f (by omega)) rfl ?_
  refine L_v (opv_move rfl) rfl ?_
  refine L_gon rfl rfl rfl ?_
  refine L_v (opv_move rfl) rfl ?_
  refine L_gon rfl rfl rfl ?_
  refine L_v ((opv_gtr rfl rfl).bool_f (by omega)) rfl ?_
  first
    | refine L_v (opv_pick_tt rfl rfl) rfl ?_
    | refine L_v (opv_pick_ff rfl rfl) rfl ?_
    | refine L_v (opv_pick rfl rfl rfl) rfl ?_
  refine L_v (opv_move rfl) rfl ?_
  refine L_gon rfl rfl rfl ?_
  refine L_v (opv_move rfl) rfl ?_
  refine L_gon rfl rfl rfl ?_
  refine L_v ((opv_lss rfl rfl).bool_f (by omega)) rfl ?_
  first
    | refine L_v (opv_pick_tt rfl rfl) rfl ?_
    | refine L_v (opv_pick_ff rfl rfl) rfl ?_
    | refine L_v (opv_pick rfl rfl rfl) rfl ?_
  refine L_v (opv_move rfl) rfl ?_
  refine L_gon rfl rfl rfl ?_
  refine L_v (opv_move rfl) rfl ?_
  refine L_gon rfl rfl rfl ?_
  refine L_v ((opv_gtr rfl rfl).bool_f (by omega)) rfl ?_
  first
    | refine L_v (opv_pick_tt rfl rfl) rfl ?_
    | refine L_v (opv_pick_ff rfl rfl) rfl ?_
    | refine L_v (opv_pick rfl rfl rfl) rfl ?_
  refine L_nil ?_
  refine K_then ?_
  refine J_cond_false rfl ?_
  refine J_skip ?_
  refine K_then ?_
  refine J_seq ?_
  refine J_region ?_
  refine L_v (opv_move rfl) rfl ?_
  refine L_x rfl (opx_call0 (New_okE 1 wt (by decide) (by omega)) rfl rfl rfl) (fun tp _ => ?_)
  refine L_v (opv_move rfl) rfl ?_
  refine L_v (opv_extract rfl rfl) rfl ?_
  refine L_v (opv_extract rfl rfl) rfl ?_
  refine L_v (opv_assign rfl) rfl ?_
  refine L_v (opv_assign rfl) rfl ?_
  refine L_nil ?_
  refine K_then ?_
  refine J_seq ?_
  refine J_seq ?_
  refine J_region ?_
  refine L_v (opv_move rfl) rfl ?_
  refine L_v ((opv_neq rfl rfl).bool_f (by decide)) rfl ?_
  refine L_v (opv_move rfl) rfl ?_
  refine L_gon rfl rfl rfl ?_
  refine L_v (opv_move rfl) rfl ?_
  refine L_gon rfl rfl rfl ?_
  first
    | refine L_v (opv_eql rfl rfl) rfl ?_
    | refine L_v (opv_eqlS rfl rfl) rfl ?_
    | refine L_v (opv_eqlNil rfl rfl) rfl ?_
    | refine L_v (opv_eqlB rfl rfl) rfl ?_
  first
    | refine L_v (opv_pick_tt rfl rfl) rfl ?_
    | refine L_v (opv_pick_ff rfl rfl) rfl ?_
    | refine L_v (opv_pick rfl rfl rfl) rfl ?_
  refine L_nil ?_
  refine K_then ?_
  refine J_cond_false rfl ?_
  refine J_skip ?_
  refine K_then ?_
  refine J_seq ?_
  refine J_region ?_
  refine L_x rfl (opx_call0 (parts_spec) rfl rfl rfl) (fun b3 _ => ?_)
  refine L_v (opv_assign rfl) rfl ?_
  refine L_nil ?_
  refine K_then ?_
  refine J_seq ?_
  refine J_region ?_
  refine L_v (opv_move rfl) rfl ?_
  refine L_v (opv_move rfl) rfl ?_
  refine L_v ((opv_indexAddr rfl rfl (by decide)).as (v' := .pointer (some (ad b3 0))) rfl) rfl ?_
  refine L_v (opv_loadN (vs := [.int .i64 pa0.id, .bool pa0.more, .int .i64 pa0.off, .int .i64 pa0.ttl, .int .i64 pa0.proto, .int .u8 pa0.s0, .int .u8 pa0.s1, .int .u8 pa0.s2, .int .u8 pa0.s3, .int .u8 pa0.d0, .int .u8 pa0.d1, .int .u8 pa0.d2, .int .u8 pa0.d3, .string pa0.data]) rfl rfl (fun j u hj => Rd.look (l := encPk pa0 ++ encPk pa1) (ld0 hj))) rfl ?_
  refine L_x rfl (opx_call0 (pspA tp 1 wt 5 0 0 (by decide) (by omega) (by decide) (by decide)) rfl rfl rfl) (fun _ _ => ?_)
  refine L_nil ?_
  refine K_then ?_
  refine J_seq ?_
  refine J_seq ?_
  refine J_region ?_
  refine L_v (opv_move rfl) rfl ?_
  refine L_v ((opv_lss rfl rfl).bool_f (by omega)) rfl ?_
  refine L_nil ?_
  refine K_then ?_
  refine J_cond_false rfl ?_
  refine J_skip ?_
  refine K_then ?_
  refine J_seq ?_
  refine J_region ?_
  refine L_v (opv_move rfl) rfl ?_
  refine L_v (opv_move rfl) rfl ?_
  refine L_v (opv_move rfl) rfl ?_
  refine L_v ((opv_indexAddr rfl rfl (by decide)).as (v' := .pointer (some (ad b3 14))) rfl) rfl ?_
  refine L_v (opv_loadN (vs := [.int .i64 pa1.id, .bool pa1.more, .int .i64 pa1.off, .int .i64 pa1.ttl, .int .i64 pa1.proto, .int .u8 pa1.s0, .int .u8 pa1.s1, .int .u8 pa1.s2, .int .u8 pa1.s3, .int .u8 pa1.d0, .int .u8 pa1.d1, .int .u8 pa1.d2, .int .u8 pa1.d3, .string pa1.data]) rfl rfl (fun j u hj => Rd.look (l := encPk pa0 ++ encPk pa1) (ld1 hj))) rfl ?_
  refine L_x rfl (opx_call0 (pspC tp 1 wt now 5 0 (by omega) (by omega) (by decide) (by omega)) rfl rfl rfl) (fun _ _ => ?_)
  refine L_v (opv_move rfl) rfl ?_
  refine L_v (opv_extract (v := .agg [.int .i64 0, .bool false, .int .i64 0, .int .i64 0, .int .i64 0, .int .u8 0, .int .u8 0, .int .u8 0, .int .u8 0, .int .u8 0, .int .u8 0, .int .u8 0, .int .u8 0, .string ⟨#[]⟩].toArray) rfl rfl) rfl ?_
  refine L_v (opv_extract rfl rfl) rfl ?_
  refine L_v (opv_extract rfl rfl) rfl ?_
  refine L_x rfl (opx_alloc (zs := [.int .i64 0, .bool false, .int .i64 0, .int .i64 0, .int .i64 0, .int .u8 0, .int .u8 0, .int .u8 0, .int .u8 0, .int .u8 0, .int .u8 0, .int .u8 0, .int .u8 0, .string ⟨#[]⟩]) rfl) (fun b8 _ => ?_)
  refine L_x rfl (opx_store rfl rfl rfl (by simp [Value.oneCell'])) (fun _ _ => ?_)
  refine L_v (opv_assign rfl) rfl ?_
  refine L_v (opv_assign rfl) rfl ?_
  refine L_nil ?_
  refine K_then ?_
  refine J_seq ?_
  refine J_region ?_
  refine L_v (opv_move rfl) rfl ?_
  refine L_v (opv_move rfl) rfl ?_
  first
    | refine L_v (opv_sub64 rfl rfl (by omega)) rfl ?_
    | refine L_v (opv_sub rfl rfl) rfl ?_
  refine L_v (opv_move rfl) rfl ?_
  refine L_v ((opv_leq rfl rfl).bool_f (by omega)) rfl ?_
  refine L_v (opv_eqlB rfl rfl) rfl ?_
  refine L_v (opv_move rfl) rfl ?_
  refine L_gon rfl rfl rfl ?_
  refine L_v (opv_move rfl) rfl ?_
  refine L_gon rfl rfl rfl ?_
  refine L_v ((opv_eql rfl rfl).bool_f (by decide)) rfl ?_
  refine L_gon rfl rfl rfl ?_
  refine L_v (opv_move rfl) rfl ?_
  refine L_gon rfl rfl rfl ?_
  refine L_v (opv_eqlB rfl rfl) rfl ?_
  first
    | refine L_v (opv_pick_tt rfl rfl) rfl ?_
    | refine L_v (opv_pick_ff rfl rfl) rfl ?_
    | refine L_v (opv_pick rfl rfl rfl) rfl ?_
  refine L_v (opv_move rfl) rfl ?_
  refine L_gon rfl rfl rfl ?_
  refine L_v (opv_move rfl) rfl ?_
  refine L_gon rfl rfl rfl ?_
  refine L_x rfl (opx_call0 (Keys_spec tp 1 wt ⟨[], now, 0 + 1⟩ (by show (0 : Nat) ≤ 1000000; decide)) rfl rfl rfl) (fun z _ => ?_)
  refine L_gon rfl rfl rfl ?_
  first
    | refine L_v (opv_lenL rfl) rfl ?_
    | refine L_v (opv_lenS rfl) rfl ?_
  refine L_gon rfl rfl rfl ?_
  refine L_v ((opv_eql rfl rfl).bool_t rfl) rfl ?_
  first
    | refine L_v (opv_pick_tt rfl rfl) rfl ?_
    | refine L_v (opv_pick_ff rfl rfl) rfl ?_
    | refine L_v (opv_pick rfl rfl rfl) rfl ?_
  refine L_v (opv_move rfl) rfl ?_
  refine L_gon rfl rfl rfl ?_
  refine L_x rfl (opx_call0 (rawake_spec) rfl rfl rfl) (fun _ _ => ?_)
  refine L_emp ?_
  first
    | refine L_v (opv_pick_tt rfl rfl) rfl ?_
    | refine L_v (opv_pick_ff rfl rfl) rfl ?_
    | refine L_v (opv_pick rfl rfl rfl) rfl ?_
  refine L_v (opv_assign rfl) rfl ?_
  refine L_nil ?_
  refine K_then ?_
  refine J_ret ?_
  exact K_ret1 rfl rfl () trivial (rfl) Ent.take

theorem ReasmWaits_law (W : World) (wt now : Int) : FSpec Try.prog 9 #[.int .i64 wt, .int .i64 now] (old W) (fun _ : Unit => True) (fun _ => .bool true) (fun _ => old W) := by
  by_cases h : (0 ≤ wt ∧ wt ≤ 1000000) ∧ 0 ≤ now ∧ now ≤ 2000000
  · by_cases h3 : now < 5
    · exact RW_early W wt now h.1 h.2 h3
    · by_cases h4 : now - 5 ≤ wt
      · exact RW_in W wt now h.1 h.2 (by omega) h4
      · exact RW_out W wt now h.1 h.2 (by omega) (by omega)
  · exact RW_bad W wt now h

end Go.Proofs.Ytjpbpfihacfndaa
namespace Go.Proofs.Ytjpbpfihacfndaa.reasmWaits
open Go.ChangeShapes Go.WideShapes Go.ChangeAt Go.RowKit Go.SLA
open Go.ChangeMaps (open_string shut_string)
set_option linter.unusedVariables false
theorem own : ownKnob Try.prog.godebug = none := by kernel_rfl
theorem laidOut : laidOutB Try.prog = true := by kernel_rfl
set_option maxRecDepth 100000 in
theorem lifted (os : Os) (started : os.Started) (H : Type) (enc : TypeId × Value → H) :
    ReturnsInHanded {} Try.checked os 9 .any (Rows.reasmWaitsSpec.pre6 enc Try.prog Try.f9 Rows.reasmWaitsRow.domain false) (Rows.reasmWaitsSpec.post enc Try.prog Try.f9 false true false false) := by
  refine returnsInHanded_of_change_sized (C := Try.checked) own started (by kernel_rfl) Try.func9
    (ChangeSpec.witness6 (enc := enc) (C := Try.checked) false ⟨#[], #[.int .i64 0, .int .i64 0], []⟩ 8 (by kernel_rfl) (by kernel_rfl) (by kernel_rfl) (by kernel_rfl)) ?_
  intro W base args ds gs before hval0 hW hcnd hsz0 _
  have hsz : (DataW.weightsEach Try.prog (Try.f9.params.toList ++ Rows.reasmWaitsSpec.plain.varTypes Try.prog) (ds ++ gs)).all (· ≤ reachBytes) = true := hsz0
  have hval : ∀ (j : Nat) t v, Try.f9.params[j]? = some t → args[j]? = some v → Value.okWide Try.prog W .any base t v := hval0
  have hW' := hW
  obtain ⟨p, q, hA0, hV, rfl, hfz, hnd⟩ := hW
  have hA : DataW.TrodAll enc Try.prog W 0 (fun _ => true) true Try.f9.params.toList args.toList ds p := hA0
  rw [Try.params9] at hA hval hsz
  obtain ⟨v0, vs0, d0, ds0, p0, q0, hargs, rfl, rfl, h0, r0⟩ := trodAll_cons hA
  obtain ⟨v1, vs1, d1, ds1, p1, q1, rfl, rfl, rfl, h1, r1⟩ := trodAll_cons r0
  obtain ⟨rfl, rfl, rfl⟩ := trodAll_nil r1
  obtain rfl : args = #[v0, v1] := by cases args; simp_all
  obtain ⟨rfl, rfl⟩ := trodVars_none hV
  have k0 := h0
  have lt0 : ∀ x ∈ p0, x.block < W.heap.size := by obtain ⟨m, hm⟩ := k0; exact DataW.trod_lt m _ _ _ hm
  obtain ⟨a0, rfl, rfl, rfl, w0⟩ := open_int Try.underlying3 (hval 0 3 v0 rfl rfl) h0
  have k1 := h1
  have lt1 : ∀ x ∈ p1, x.block < W.heap.size := by obtain ⟨m, hm⟩ := k1; exact DataW.trod_lt m _ _ _ hm
  obtain ⟨a1, rfl, rfl, rfl, w1⟩ := open_int Try.underlying3 (hval 1 3 v1 rfl rfl) h1
  clear hA0 hval0 hsz0 hsz
  refine (FSpec.law (ReasmWaits_law W a0 a1)).mono fun e W' ⟨he, bel⟩ => ?_
  subst he
  exact ⟨_, rfl, _, _, _, [], _, [], hW', trodAll_mk1 (shut_bool Try.underlying4 _), (trodAll_cons_mk (Below.trod laidOut (by kernel_rfl) (of_decide_eq_true (by kernel_rfl)) k0 bel lt0) (trodAll_cons_mk (Below.trod laidOut (by kernel_rfl) (of_decide_eq_true (by kernel_rfl)) k1 bel lt1) trodAll_mk0)), rfl, bel.frame _, fun h => by cases h⟩
theorem over : Rows.reasmWaitsRow.holds Try.pinned (OpenSpec.ofChange Rows.reasmWaitsSpec) :=
  OpenClaim.holds_of_wide 9 Try.f9 rfl rfl rfl rfl rfl rfl rfl ⟨rfl, rfl, rfl, rfl, rfl⟩ rfl rfl rfl rfl rfl (by kernel_rfl) Try.func9 (by kernel_rfl)
    (of_decide_eq_true (by kernel_rfl)) (by unfold Func.isWrapper; first | (rw [if_pos (by decide +kernel)]; kernel_rfl) | (rw [if_neg (by decide +kernel)]; exact ⟨rfl, rfl⟩))
    (fun os started H enc _ => lifted os started H enc)
end Go.Proofs.Ytjpbpfihacfndaa.reasmWaits
namespace Go.Proofs.Ytjpbpfihacfndaa
theorem reasmWaits_holds : Rows.ReasmWaitsSaid := reasmWaits.over
#print axioms reasmWaits_holds
end Go.Proofs.Ytjpbpfihacfndaa
namespace Go.Proofs.Ytjpbpfihacfndaa
open Go.SLA
end Go.Proofs.Ytjpbpfihacfndaa
namespace Go.Proofs.Ytjpbpfihacfndaa.reasmNil
open Go.ChangeShapes Go.WideShapes Go.ChangeAt Go.RowKit Go.SLA
open Go.ChangeMaps (open_string shut_string)
set_option linter.unusedVariables false
theorem own : ownKnob Try.prog.godebug = none := by kernel_rfl
theorem laidOut : laidOutB Try.prog = true := by kernel_rfl
set_option maxRecDepth 100000 in
theorem lifted (os : Os) (started : os.Started) (H : Type) (enc : TypeId × Value → H) :
    ReturnsInHanded {} Try.checked os 10 .any (Rows.reasmNilSpec.pre6 enc Try.prog Try.f10 Rows.reasmNilRow.domain false) (Rows.reasmNilSpec.post enc Try.prog Try.f10 false true false false) := by
  refine returnsInHanded_of_change_sized (C := Try.checked) own started (by kernel_rfl) Try.func10
    (ChangeSpec.witness6 (enc := enc) (C := Try.checked) false ⟨#[], #[.int .i64 0, .agg (encPk pkz).toArray], []⟩ 8 (by kernel_rfl) (by kernel_rfl) (by kernel_rfl) (by kernel_rfl)) ?_
  intro W base args ds gs before hval0 hW hcnd hsz0 _
  have hsz : (DataW.weightsEach Try.prog (Try.f10.params.toList ++ Rows.reasmNilSpec.plain.varTypes Try.prog) (ds ++ gs)).all (· ≤ reachBytes) = true := hsz0
  have hval : ∀ (j : Nat) t v, Try.f10.params[j]? = some t → args[j]? = some v → Value.okWide Try.prog W .any base t v := hval0
  have hW' := hW
  obtain ⟨p, q, hA0, hV, rfl, hfz, hnd⟩ := hW
  have hA : DataW.TrodAll enc Try.prog W 0 (fun _ => true) true Try.f10.params.toList args.toList ds p := hA0
  rw [Try.params10] at hA hval hsz
  obtain ⟨v0, vs0, d0, ds0, p0, q0, hargs, rfl, rfl, h0, r0⟩ := trodAll_cons hA
  obtain ⟨v1, vs1, d1, ds1, p1, q1, rfl, rfl, rfl, h1, r1⟩ := trodAll_cons r0
  obtain ⟨rfl, rfl, rfl⟩ := trodAll_nil r1
  obtain rfl : args = #[v0, v1] := by cases args; simp_all
  obtain ⟨rfl, rfl⟩ := trodVars_none hV
  have k0 := h0
  have lt0 : ∀ x ∈ p0, x.block < W.heap.size := by obtain ⟨m, hm⟩ := k0; exact DataW.trod_lt m _ _ _ hm
  obtain ⟨a0, rfl, rfl, rfl, w0⟩ := open_int Try.underlying3 (hval 0 3 v0 rfl rfl) h0
  have k1 := h1
  have lt1 : ∀ x ∈ p1, x.block < W.heap.size := by obtain ⟨m, hm⟩ := k1; exact DataW.trod_lt m _ _ _ hm
  obtain ⟨l1, rfl, g1⟩ := open_flat (D := 5) (ks := ksPk) (by kernel_rfl) (by kernel_rfl) (hval 1 32 v1 rfl rfl) h1
  obtain ⟨x1, rfl, ok1⟩ := decPk l1 g1
  clear hA0 hval0 hsz0 hsz
  refine (FSpec.law (ReasmNil_law W a0 x1)).mono fun e W' ⟨he, bel⟩ => ?_
  subst he
  exact ⟨_, rfl, _, _, _, [], _, [], hW', trodAll_mk1 (shut_bool Try.underlying4 _), (trodAll_cons_mk (Below.trod laidOut (by kernel_rfl) (of_decide_eq_true (by kernel_rfl)) k0 bel lt0) (trodAll_cons_mk (Below.trod laidOut (by kernel_rfl) (of_decide_eq_true (by kernel_rfl)) k1 bel lt1) trodAll_mk0)), rfl, bel.frame _, fun h => by cases h⟩
theorem over : Rows.reasmNilRow.holds Try.pinned (OpenSpec.ofChange Rows.reasmNilSpec) :=
  OpenClaim.holds_of_wide 10 Try.f10 rfl rfl rfl rfl rfl rfl rfl ⟨rfl, rfl, rfl, rfl, rfl⟩ rfl rfl rfl rfl rfl (by kernel_rfl) Try.func10 (by kernel_rfl)
    (of_decide_eq_true (by kernel_rfl)) (by unfold Func.isWrapper; first | (rw [if_pos (by decide +kernel)]; kernel_rfl) | (rw [if_neg (by decide +kernel)]; exact ⟨rfl, rfl⟩))
    (fun os started H enc _ => lifted os started H enc)
end Go.Proofs.Ytjpbpfihacfndaa.reasmNil
namespace Go.Proofs.Ytjpbpfihacfndaa
theorem reasmNil_holds : Rows.ReasmNilSaid := reasmNil.over
#print axioms reasmNil_holds
end Go.Proofs.Ytjpbpfihacfndaa
namespace Go.Proofs.Ytjpbpfihacfndaa
open Go.SLA
end Go.Proofs.Ytjpbpfihacfndaa
