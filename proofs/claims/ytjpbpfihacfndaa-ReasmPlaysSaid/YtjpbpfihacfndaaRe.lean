/- Contracts of functions of the package reasm, each proved by a walk over its code; they are used by the texts that import this one. -/
import Derived.Test.YtjpbpfihacfndaaRd
import Derived.Test.YtjpbpfihacfndaaO
import Derived.Test.YtjpbpfihacfndaaH
namespace Go.Proofs.Ytjpbpfihacfndaa
open Go.SLA
set_option maxRecDepth 100000
set_option linter.unusedVariables false
set_option linter.unusedSimpArgs false
attribute [local irreducible] J L K QL Rg FSpec OpV OpX Rd Back

def upd (q : List Bg) (k : Ky) (d : ByteArray) : List Bg := q.map fun b => if b.k = k then ⟨b.k, b.t, b.data ++ d⟩ else b
theorem keysOf_upd (q : List Bg) (k : Ky) (d : ByteArray) : keysOf (upd q k d) = keysOf q := by
  unfold keysOf upd
  rw [List.map_map]
  refine List.map_congr_left fun b _ => ?_
  show (if b.k = k then (⟨b.k, b.t, b.data ++ d⟩ : Bg) else b).k = b.k
  split <;> rfl
def bfind (q : List Bg) (k : Ky) : Option Bg := q.find? fun b => decide (b.k = k)
/-- The begun one of a key, among blocks. -/
theorem mid {es : List (Bg × Nat)} {q : List Bg} {k : Ky} {b : Bg} (h : es.map (·.1) = q) (hf : bfind q k = some b) : ∃ l1 n l2, es = l1 ++ (b, n) :: l2 ∧ b.k = k ∧ ∀ e ∈ l1, e.1.k ≠ k := by
  unfold bfind at hf
  rw [← h, List.find?_map] at hf
  cases hg : es.find? ((fun b : Bg => decide (b.k = k)) ∘ fun e : Bg × Nat => e.1) with
  | none => rw [hg] at hf; cases hf
  | some e =>
    rw [hg] at hf
    simp only [Option.map_some, Option.some.injEq] at hf
    obtain ⟨h1, l1, l2, h2, h3⟩ := List.find?_eq_some_iff_append.1 hg
    subst hf
    refine ⟨l1, e.2, l2, h2, by simpa using h1, fun a ha => ?_⟩
    have := h3 a ha
    simpa using this
theorem mid_ptr {l1 l2 : List (Bg × Nat)} {b : Bg} {n : Nat} {k : Ky} (hk : b.k = k) (h1 : ∀ e ∈ l1, e.1.k ≠ k) : ptrOf (l1 ++ (b, n) :: l2) k = some (ad n 0) := by
  unfold ptrOf
  rw [List.find?_append]
  have : (l1.find? fun e => decide (e.1.k = k)) = none := by
    rw [List.find?_eq_none]
    intro a ha
    simp [h1 a ha]
  rw [this]
  simp [List.find?_cons, hk]
theorem mid_rest {l1 l2 : List (Bg × Nat)} {b : Bg} {n : Nat} {k : Ky} (hk : b.k = k) (hn : (keysOf ((l1 ++ (b, n) :: l2).map (·.1))).Nodup) : ∀ e ∈ l2, e.1.k ≠ k := by
  intro e he hek
  unfold keysOf at hn
  rw [List.map_append, List.map_append, List.map_cons, List.map_cons] at hn
  have h2 := (List.nodup_append.1 hn).2.1
  have h3 := (List.nodup_cons.1 h2).1
  exact h3 (by rw [hk, ← hek]; exact List.mem_map.2 ⟨e.1, List.mem_map.2 ⟨e, he, rfl⟩, rfl⟩)
theorem filt_no {l : List (Bg × Nat)} {k : Ky} (h : ∀ e ∈ l, e.1.k ≠ k) : (l.filter fun e => !decide (e.1.k = k)) = l := by
  rw [List.filter_eq_self]
  intro a ha
  simp [h a ha]
theorem mid_filt {l1 l2 : List (Bg × Nat)} {b : Bg} {n : Nat} {k : Ky} (hk : b.k = k) (h1 : ∀ e ∈ l1, e.1.k ≠ k) (h2 : ∀ e ∈ l2, e.1.k ≠ k) : ((l1 ++ (b, n) :: l2).filter fun e => !decide (e.1.k = k)) = l1 ++ l2 := by
  rw [List.filter_append, filt_no h1, List.filter_cons, if_neg (by simp [hk]), filt_no h2]
theorem upd_no {l : List (Bg × Nat)} {k : Ky} {d : ByteArray} (h : ∀ e ∈ l, e.1.k ≠ k) : upd (l.map (·.1)) k d = l.map (·.1) := by
  unfold upd
  rw [List.map_map]
  refine List.map_congr_left fun a ha => ?_
  show (if a.1.k = k then (⟨a.1.k, a.1.t, a.1.data ++ d⟩ : Bg) else a.1) = a.1
  rw [if_neg (h a ha)]
theorem mid_upd {l1 l2 : List (Bg × Nat)} {b : Bg} {n : Nat} {k : Ky} {d : ByteArray} (hk : b.k = k) (h1 : ∀ e ∈ l1, e.1.k ≠ k) (h2 : ∀ e ∈ l2, e.1.k ≠ k) : upd ((l1 ++ (b, n) :: l2).map (·.1)) k d = (l1 ++ ((⟨b.k, b.t, b.data ++ d⟩ : Bg), n) :: l2).map (·.1) := by
  rw [List.map_append, List.map_append, List.map_cons, List.map_cons, ← upd_no (d := d) h1, ← upd_no (d := d) h2]
  have e : upd (upd (l1.map (·.1)) k d ++ b :: upd (l2.map (·.1)) k d) k d = upd (upd (l1.map (·.1)) k d) k d ++ ((if b.k = k then (⟨b.k, b.t, b.data ++ d⟩ : Bg) else b) :: upd (upd (l2.map (·.1)) k d) k d) := by
    show List.map _ (_ ++ _) = _
    rw [List.map_append, List.map_cons]
    rfl
  rw [e, if_pos hk, upd_no h1, upd_no h2, upd_no h1, upd_no h2]
theorem MapIs.upd {l1 l2 : List (Bg × Nat)} {b b' : Bg} {n : Nat} {f : List Value → Option Value} (h : MapIs (l1 ++ (b, n) :: l2) f) (hk : b'.k = b.k) : MapIs (l1 ++ (b', n) :: l2) f := by
  refine ⟨?_, fun k' => ?_⟩
  · have e : keysOf ((l1 ++ (b', n) :: l2).map (·.1)) = keysOf ((l1 ++ (b, n) :: l2).map (·.1)) := by
      unfold keysOf
      simp [hk]
    rw [e]; exact h.nd
  · rw [h.at_, List.find?_append, List.find?_append, List.find?_cons, List.find?_cons]
    rw [show ((b', n) : Bg × Nat).1.k = ((b, n) : Bg × Nat).1.k from hk]
    cases l1.find? fun e => decide (e.1.k = k') with
    | some e => rfl
    | none =>
      show Option.map _ (match decide (((b, n) : Bg × Nat).1.k = k') with | true => some (b, n) | false => _) = _
      cases decide (((b, n) : Bg × Nat).1.k = k') <;> rfl

theorem Put_nil (now : Int) (pk : Pk) : FSpec Try.prog 32 #[.pointer none, .int .i64 now, .agg [.int .i64 pk.id, .bool pk.more, .int .i64 pk.off, .int .i64 pk.ttl, .int .i64 pk.proto, .int .u8 pk.s0, .int .u8 pk.s1, .int .u8 pk.s2, .int .u8 pk.s3, .int .u8 pk.d0, .int .u8 pk.d1, .int .u8 pk.d2, .int .u8 pk.d3, .string pk.data].toArray] (emp) (fun _ : Unit => True) (fun _ => .tuple #[.agg [.int .i64 0, .bool false, .int .i64 0, .int .i64 0, .int .i64 0, .int .u8 0, .int .u8 0, .int .u8 0, .int .u8 0, .int .u8 0, .int .u8 0, .int .u8 0, .int .u8 0, .string ⟨#[]⟩].toArray, .bool false, .int .i64 2]) (fun _ => emp) := by
  refine FSpec.enter' Try.func32 rfl Try.ntmps32 rfl fun σ F => ?_
  refine J_emp ?_
  refine J_seq ?_
  refine J_region ?_
  refine L_x rfl (opx_box (l := [.int .i64 pk.id, .bool pk.more, .int .i64 pk.off, .int .i64 pk.ttl, .int .i64 pk.proto, .int .u8 pk.s0, .int .u8 pk.s1, .int .u8 pk.s2, .int .u8 pk.s3, .int .u8 pk.d0, .int .u8 pk.d1, .int .u8 pk.d2, .int .u8 pk.d3, .string pk.data]) rfl rfl) (fun b5 _ => ?_)
  refine L_x rfl (opx_alloc rfl) (fun b6 _ => ?_)
  refine L_v (opv_assign rfl) rfl ?_
  refine L_v (opv_assign rfl) rfl ?_
  refine L_nil ?_
  refine K_then ?_
  refine J_seq ?_
  refine J_seq ?_
  refine J_region ?_
  refine L_v (opv_move rfl) rfl ?_
  refine L_v (opv_move rfl) rfl ?_
  refine L_x rfl (opx_call0 (Pass_nil now) rfl rfl rfl) (fun _ _ => ?_)
  refine L_emp ?_
  refine L_v (opv_assign rfl) rfl ?_
  refine L_nil ?_
  refine K_then ?_
  refine J_seq ?_
  refine J_region ?_
  refine L_v (opv_move rfl) rfl ?_
  refine L_v ((opv_neq rfl rfl).bool_t (by decide)) rfl ?_
  refine L_nil ?_
  refine K_then ?_
  refine J_cond_true rfl ?_
  refine J_seq ?_
  refine J_region ?_
  refine L_v (opv_build rfl) rfl ?_
  refine L_v (opv_move rfl) rfl ?_
  refine L_x rfl (opx_store rfl rfl rfl (by simp [Value.oneCell'])) (fun _ _ => ?_)
  refine L_v (opv_assign rfl) rfl ?_
  refine L_v (opv_assign rfl) rfl ?_
  refine L_nil ?_
  refine K_then ?_
  refine J_ret ?_
  refine K_then_ret ?_
  exact K_ret3c rfl rfl rfl rfl rfl () trivial rfl Ent.take

theorem Put_bad (tp : Nat) (m wt : Int) (T : TS) (now : Int) (pk : Pk) (h : timC T.now now ≠ 0) : FSpec Try.prog 32 #[.pointer (some (ad tp 0)), .int .i64 now, .agg [.int .i64 pk.id, .bool pk.more, .int .i64 pk.off, .int .i64 pk.ttl, .int .i64 pk.proto, .int .u8 pk.s0, .int .u8 pk.s1, .int .u8 pk.s2, .int .u8 pk.s3, .int .u8 pk.d0, .int .u8 pk.d1, .int .u8 pk.d2, .int .u8 pk.d3, .string pk.data].toArray] (TabP tp m wt T) (fun _ : Unit => True) (fun _ => .tuple #[.agg [.int .i64 0, .bool false, .int .i64 0, .int .i64 0, .int .i64 0, .int .u8 0, .int .u8 0, .int .u8 0, .int .u8 0, .int .u8 0, .int .u8 0, .int .u8 0, .int .u8 0, .string ⟨#[]⟩].toArray, .bool false, .int .i64 (timC T.now now)]) (fun _ => TabP tp m wt T) := by
  refine FSpec.enter' Try.func32 rfl Try.ntmps32 rfl fun σ F => ?_
  refine J_seq ?_
  refine J_region ?_
  refine L_x rfl (opx_box (l := [.int .i64 pk.id, .bool pk.more, .int .i64 pk.off, .int .i64 pk.ttl, .int .i64 pk.proto, .int .u8 pk.s0, .int .u8 pk.s1, .int .u8 pk.s2, .int .u8 pk.s3, .int .u8 pk.d0, .int .u8 pk.d1, .int .u8 pk.d2, .int .u8 pk.d3, .string pk.data]) rfl rfl) (fun b5 _ => ?_)
  refine L_x rfl (opx_alloc rfl) (fun b6 _ => ?_)
  refine L_v (opv_assign rfl) rfl ?_
  refine L_v (opv_assign rfl) rfl ?_
  refine L_nil ?_
  refine K_then ?_
  refine J_seq ?_
  refine J_seq ?_
  refine J_region ?_
  refine L_v (opv_move rfl) rfl ?_
  refine L_v (opv_move rfl) rfl ?_
  refine L_x rfl (opx_call0 (Pass_bad tp m wt T now h) rfl rfl rfl) (fun _ _ => ?_)
  refine L_v (opv_assign rfl) rfl ?_
  refine L_nil ?_
  refine K_then ?_
  refine J_seq ?_
  refine J_region ?_
  refine L_v (opv_move rfl) rfl ?_
  refine L_v ((opv_neq rfl rfl).bool_t h) rfl ?_
  refine L_nil ?_
  refine K_then ?_
  refine J_cond_true rfl ?_
  refine J_seq ?_
  refine J_region ?_
  refine L_v (opv_build rfl) rfl ?_
  refine L_v (opv_move rfl) rfl ?_
  refine L_x rfl (opx_store rfl rfl rfl (by simp [Value.oneCell'])) (fun _ _ => ?_)
  refine L_v (opv_assign rfl) rfl ?_
  refine L_v (opv_assign rfl) rfl ?_
  refine L_nil ?_
  refine K_then ?_
  refine J_ret ?_
  refine K_then_ret ?_
  exact K_ret3c rfl rfl rfl rfl rfl () trivial rfl Ent.take

theorem Put_whole (tp : Nat) (m wt : Int) (T : TS) (now : Int) (pk : Pk) (h : timC T.now now = 0) (n : Nat) (hT : TOk n T) (hn : n ≤ 1000000) (hwt : 0 ≤ wt ∧ wt ≤ 1125899906842624) (hd : pk.data.size ≤ 140737488351232) (ho : pk.off = 0) (hm : pk.more = false) : FSpec Try.prog 32 #[.pointer (some (ad tp 0)), .int .i64 now, .agg [.int .i64 pk.id, .bool pk.more, .int .i64 pk.off, .int .i64 pk.ttl, .int .i64 pk.proto, .int .u8 pk.s0, .int .u8 pk.s1, .int .u8 pk.s2, .int .u8 pk.s3, .int .u8 pk.d0, .int .u8 pk.d1, .int .u8 pk.d2, .int .u8 pk.d3, .string pk.data].toArray] (TabP tp m wt T) (fun _ : Unit => True) (fun _ => .tuple #[.agg [.int .i64 pk.id, .bool pk.more, .int .i64 pk.off, .int .i64 pk.ttl, .int .i64 pk.proto, .int .u8 pk.s0, .int .u8 pk.s1, .int .u8 pk.s2, .int .u8 pk.s3, .int .u8 pk.d0, .int .u8 pk.d1, .int .u8 pk.d2, .int .u8 pk.d3, .string pk.data].toArray, .bool true, .int .i64 0]) (fun _ => TabP tp m wt (T.pass wt now)) := by
  refine FSpec.enter' Try.func32 rfl Try.ntmps32 rfl fun σ F => ?_
  refine J_seq ?_
  refine J_region ?_
  refine L_x rfl (opx_box (l := [.int .i64 pk.id, .bool pk.more, .int .i64 pk.off, .int .i64 pk.ttl, .int .i64 pk.proto, .int .u8 pk.s0, .int .u8 pk.s1, .int .u8 pk.s2, .int .u8 pk.s3, .int .u8 pk.d0, .int .u8 pk.d1, .int .u8 pk.d2, .int .u8 pk.d3, .string pk.data]) rfl rfl) (fun b5 _ => ?_)
  refine L_x rfl (opx_alloc rfl) (fun b6 _ => ?_)
  refine L_v (opv_assign rfl) rfl ?_
  refine L_v (opv_assign rfl) rfl ?_
  refine L_nil ?_
  refine K_then ?_
  refine J_seq ?_
  refine J_seq ?_
  refine J_region ?_
  refine L_v (opv_move rfl) rfl ?_
  refine L_v (opv_move rfl) rfl ?_
  refine L_x rfl (opx_call0 (Pass_ok tp m wt T now h n hT hn hwt) rfl rfl rfl) (fun _ _ => ?_)
  refine L_v (opv_assign rfl) rfl ?_
  refine L_nil ?_
  refine K_then ?_
  refine J_seq ?_
  refine J_region ?_
  refine L_v (opv_move rfl) rfl ?_
  refine L_v ((opv_neq rfl rfl).bool_f (by decide)) rfl ?_
  refine L_nil ?_
  refine K_then ?_
  refine J_cond_false rfl ?_
  refine J_skip ?_
  refine K_then ?_
  refine J_seq ?_
  refine J_block ?_
  refine J_seq ?_
  refine J_region ?_
  first
    | refine L_v (opv_fieldAddr0 rfl) rfl ?_
    | refine L_v (opv_fieldAddr rfl) rfl ?_
  refine L_v (opv_load rfl (Rd.look rfl)) rfl ?_
  refine L_v ((opv_eql rfl rfl).bool_t ho) rfl ?_
  refine L_v (opv_move rfl) rfl ?_
  refine L_gon rfl rfl rfl ?_
  first
    | refine L_v (opv_fieldAddr0 rfl) rfl ?_
    | refine L_v (opv_fieldAddr rfl) rfl ?_
  refine L_gon rfl rfl rfl ?_
  refine L_v ((opv_load rfl (Rd.look rfl)).as (v' := .bool false) (by rw [hm])) rfl ?_
  refine L_gon rfl rfl rfl ?_
  refine L_v (opv_not rfl) rfl ?_
  first
    | refine L_v (opv_pick_tt rfl rfl) rfl ?_
    | refine L_v (opv_pick_ff rfl rfl) rfl ?_
    | refine L_v (opv_pick rfl rfl rfl) rfl ?_
  refine L_v (opv_assign rfl) rfl ?_
  refine L_nil ?_
  refine K_then ?_
  refine J_cond_true rfl ?_
  refine J_seq ?_
  refine J_region ?_
  refine L_v (opv_loadS rfl) rfl ?_
  refine L_x rfl (opx_store rfl rfl rfl (by simp [Value.oneCell'])) (fun _ _ => ?_)
  refine L_v (opv_assign rfl) rfl ?_
  refine L_v (opv_assign rfl) rfl ?_
  refine L_nil ?_
  refine K_then ?_
  refine J_ret ?_
  refine K_block_ret ?_
  refine K_then_ret ?_
  exact K_ret3c rfl rfl rfl rfl rfl () trivial rfl Ent.take

theorem Put_begin (tp : Nat) (m wt : Int) (T : TS) (now : Int) (pk : Pk) (h : timC T.now now = 0) (n : Nat) (hT : TOk n T) (hn : n ≤ 1000000) (hwt : 0 ≤ wt ∧ wt ≤ 1125899906842624) (hd : pk.data.size ≤ 140737488351232) (ho : pk.off = 0) (hm : pk.more = true) (hT1 : TOk n (T.pass wt now)) : FSpec Try.prog 32 #[.pointer (some (ad tp 0)), .int .i64 now, .agg [.int .i64 pk.id, .bool pk.more, .int .i64 pk.off, .int .i64 pk.ttl, .int .i64 pk.proto, .int .u8 pk.s0, .int .u8 pk.s1, .int .u8 pk.s2, .int .u8 pk.s3, .int .u8 pk.d0, .int .u8 pk.d1, .int .u8 pk.d2, .int .u8 pk.d3, .string pk.data].toArray] (TabP tp m wt T) (fun _ : Unit => True) (fun _ => .tuple #[.agg [.int .i64 0, .bool false, .int .i64 0, .int .i64 0, .int .i64 0, .int .u8 0, .int .u8 0, .int .u8 0, .int .u8 0, .int .u8 0, .int .u8 0, .int .u8 0, .int .u8 0, .string ⟨#[]⟩].toArray, .bool false, .int .i64 ((T.pass wt now).begn m pk).1]) (fun _ => TabP tp m wt ((T.pass wt now).begn m pk).2) := by
  refine FSpec.enter' Try.func32 rfl Try.ntmps32 rfl fun σ F => ?_
  refine J_seq ?_
  refine J_region ?_
  refine L_x rfl (opx_box (l := [.int .i64 pk.id, .bool pk.more, .int .i64 pk.off, .int .i64 pk.ttl, .int .i64 pk.proto, .int .u8 pk.s0, .int .u8 pk.s1, .int .u8 pk.s2, .int .u8 pk.s3, .int .u8 pk.d0, .int .u8 pk.d1, .int .u8 pk.d2, .int .u8 pk.d3, .string pk.data]) rfl rfl) (fun b5 _ => ?_)
  refine L_x rfl (opx_alloc rfl) (fun b6 _ => ?_)
  refine L_v (opv_assign rfl) rfl ?_
  refine L_v (opv_assign rfl) rfl ?_
  refine L_nil ?_
  refine K_then ?_
  refine J_seq ?_
  refine J_seq ?_
  refine J_region ?_
  refine L_v (opv_move rfl) rfl ?_
  refine L_v (opv_move rfl) rfl ?_
  refine L_x rfl (opx_call0 (Pass_ok tp m wt T now h n hT hn hwt) rfl rfl rfl) (fun _ _ => ?_)
  refine L_v (opv_assign rfl) rfl ?_
  refine L_nil ?_
  refine K_then ?_
  refine J_seq ?_
  refine J_region ?_
  refine L_v (opv_move rfl) rfl ?_
  refine L_v ((opv_neq rfl rfl).bool_f (by decide)) rfl ?_
  refine L_nil ?_
  refine K_then ?_
  refine J_cond_false rfl ?_
  refine J_skip ?_
  refine K_then ?_
  refine J_seq ?_
  refine J_block ?_
  refine J_seq ?_
  refine J_region ?_
  first
    | refine L_v (opv_fieldAddr0 rfl) rfl ?_
    | refine L_v (opv_fieldAddr rfl) rfl ?_
  refine L_v (opv_load rfl (Rd.look rfl)) rfl ?_
  refine L_v ((opv_eql rfl rfl).bool_t ho) rfl ?_
  refine L_v (opv_move rfl) rfl ?_
  refine L_gon rfl rfl rfl ?_
  first
    | refine L_v (opv_fieldAddr0 rfl) rfl ?_
    | refine L_v (opv_fieldAddr rfl) rfl ?_
  refine L_gon rfl rfl rfl ?_
  refine L_v ((opv_load rfl (Rd.look rfl)).as (v' := .bool true) (by rw [hm])) rfl ?_
  refine L_gon rfl rfl rfl ?_
  refine L_v (opv_not rfl) rfl ?_
  first
    | refine L_v (opv_pick_tt rfl rfl) rfl ?_
    | refine L_v (opv_pick_ff rfl rfl) rfl ?_
    | refine L_v (opv_pick rfl rfl rfl) rfl ?_
  refine L_v (opv_assign rfl) rfl ?_
  refine L_nil ?_
  refine K_then ?_
  refine J_cond_false rfl ?_
  refine J_seq ?_
  refine J_region ?_
  first
    | refine L_v (opv_fieldAddr0 rfl) rfl ?_
    | refine L_v (opv_fieldAddr rfl) rfl ?_
  refine L_v (opv_load rfl (Rd.look rfl)) rfl ?_
  refine L_v ((opv_eql rfl rfl).bool_t ho) rfl ?_
  refine L_v (opv_assign rfl) rfl ?_
  refine L_nil ?_
  refine K_then ?_
  refine J_cond_true rfl ?_
  refine J_seq ?_
  refine J_region ?_
  refine L_v (opv_build rfl) rfl ?_
  refine L_v (opv_move rfl) rfl ?_
  refine L_v (opv_loadS rfl) rfl ?_
  refine L_x rfl (opx_call0 (begin_spec tp m wt (T.pass wt now) pk n hT1 hn hd) rfl rfl rfl) (fun _ _ => ?_)
  refine L_x rfl (opx_store rfl rfl rfl (by simp [Value.oneCell'])) (fun _ _ => ?_)
  refine L_v (opv_assign rfl) rfl ?_
  refine L_v (opv_assign rfl) rfl ?_
  refine L_nil ?_
  refine K_then ?_
  refine J_ret ?_
  refine K_block_ret ?_
  refine K_then_ret ?_
  exact K_ret3c rfl rfl rfl rfl rfl () trivial rfl Ent.take

theorem Put_none (tp : Nat) (m wt : Int) (T : TS) (now : Int) (pk : Pk) (h : timC T.now now = 0) (n : Nat) (hT : TOk n T) (hn : n ≤ 1000000) (hwt : 0 ≤ wt ∧ wt ≤ 1125899906842624) (hd : pk.data.size ≤ 140737488351232) (ho : pk.off ≠ 0) (hf : bfind (T.pass wt now).q (kyOf pk) = none) : FSpec Try.prog 32 #[.pointer (some (ad tp 0)), .int .i64 now, .agg [.int .i64 pk.id, .bool pk.more, .int .i64 pk.off, .int .i64 pk.ttl, .int .i64 pk.proto, .int .u8 pk.s0, .int .u8 pk.s1, .int .u8 pk.s2, .int .u8 pk.s3, .int .u8 pk.d0, .int .u8 pk.d1, .int .u8 pk.d2, .int .u8 pk.d3, .string pk.data].toArray] (TabP tp m wt T) (fun _ : Unit => True) (fun _ => .tuple #[.agg [.int .i64 0, .bool false, .int .i64 0, .int .i64 0, .int .i64 0, .int .u8 0, .int .u8 0, .int .u8 0, .int .u8 0, .int .u8 0, .int .u8 0, .int .u8 0, .int .u8 0, .string ⟨#[]⟩].toArray, .bool false, .int .i64 25]) (fun _ => TabP tp m wt (T.pass wt now)) := by
  refine FSpec.enter' Try.func32 rfl Try.ntmps32 rfl fun σ F => ?_
  refine J_seq ?_
  refine J_region ?_
  refine L_x rfl (opx_box (l := [.int .i64 pk.id, .bool pk.more, .int .i64 pk.off, .int .i64 pk.ttl, .int .i64 pk.proto, .int .u8 pk.s0, .int .u8 pk.s1, .int .u8 pk.s2, .int .u8 pk.s3, .int .u8 pk.d0, .int .u8 pk.d1, .int .u8 pk.d2, .int .u8 pk.d3, .string pk.data]) rfl rfl) (fun b5 _ => ?_)
  refine L_x rfl (opx_alloc rfl) (fun b6 _ => ?_)
  refine L_v (opv_assign rfl) rfl ?_
  refine L_v (opv_assign rfl) rfl ?_
  refine L_nil ?_
  refine K_then ?_
  refine J_seq ?_
  refine J_seq ?_
  refine J_region ?_
  refine L_v (opv_move rfl) rfl ?_
  refine L_v (opv_move rfl) rfl ?_
  refine L_x rfl (opx_call0 (Pass_ok tp m wt T now h n hT hn hwt) rfl rfl rfl) (fun _ _ => ?_)
  refine L_v (opv_assign rfl) rfl ?_
  refine L_nil ?_
  refine K_then ?_
  refine J_seq ?_
  refine J_region ?_
  refine L_v (opv_move rfl) rfl ?_
  refine L_v ((opv_neq rfl rfl).bool_f (by decide)) rfl ?_
  refine L_nil ?_
  refine K_then ?_
  refine J_cond_false rfl ?_
  refine J_skip ?_
  refine K_then ?_
  refine J_seq ?_
  refine J_block ?_
  refine J_seq ?_
  refine J_region ?_
  first
    | refine L_v (opv_fieldAddr0 rfl) rfl ?_
    | refine L_v (opv_fieldAddr rfl) rfl ?_
  refine L_v (opv_load rfl (Rd.look rfl)) rfl ?_
  refine L_v ((opv_eql rfl rfl).bool_f ho) rfl ?_
  refine L_v (opv_move rfl) rfl ?_
  refine L_gskip rfl rfl rfl ?_ (fun _ h => by cases h; rfl)
  refine L_gskip rfl rfl rfl ?_ (fun _ h => by cases h; rfl)
  refine L_gskip rfl rfl rfl ?_ (fun _ h => by cases h; rfl)
  first
    | refine L_v (opv_pick_tt rfl rfl) rfl ?_
    | refine L_v (opv_pick_ff rfl rfl) rfl ?_
    | refine L_v (opv_pick rfl rfl rfl) rfl ?_
  refine L_v (opv_assign rfl) rfl ?_
  refine L_nil ?_
  refine K_then ?_
  refine J_cond_false rfl ?_
  refine J_seq ?_
  refine J_region ?_
  first
    | refine L_v (opv_fieldAddr0 rfl) rfl ?_
    | refine L_v (opv_fieldAddr rfl) rfl ?_
  refine L_v (opv_load rfl (Rd.look rfl)) rfl ?_
  refine L_v ((opv_eql rfl rfl).bool_f ho) rfl ?_
  refine L_v (opv_assign rfl) rfl ?_
  refine L_nil ?_
  refine K_then ?_
  refine J_cond_false rfl ?_
  refine J_skip ?_
  refine K_block ?_
  refine K_then ?_
  refine J_seq ?_
  refine J_region ?_
  refine L_v (opv_loadS rfl) rfl ?_
  refine L_x rfl (opx_call0 (key_specV pk) rfl rfl rfl) (fun _ _ => ?_)
  refine L_emp ?_
  refine L_x rfl (opx_alloc rfl) (fun b10 _ => ?_)
  refine L_x rfl (opx_store rfl rfl rfl (by simp [Value.oneCell'])) (fun _ _ => ?_)
  refine L_nil ?_
  refine K_then ?_
  refine J_seq ?_
  refine J_eq (sep (TabP tp m wt (T.pass wt now)) (sep (cel b10 [.int .u8 (kyOf pk).s0, .int .u8 (kyOf pk).s1, .int .u8 (kyOf pk).s2, .int .u8 (kyOf pk).s3, .int .u8 (kyOf pk).d0, .int .u8 (kyOf pk).d1, .int .u8 (kyOf pk).d2, .int .u8 (kyOf pk).d3, .int .i64 (kyOf pk).proto, .int .i64 (kyOf pk).id] 70) (sep (cel b6 [.int .i64 0, .bool false, .int .i64 0, .int .i64 0, .int .i64 0, .int .u8 0, .int .u8 0, .int .u8 0, .int .u8 0, .int .u8 0, .int .u8 0, .int .u8 0, .int .u8 0, .string ⟨#[]⟩] 32) (sep (cel b5 [.int .i64 pk.id, .bool pk.more, .int .i64 pk.off, .int .i64 pk.ttl, .int .i64 pk.proto, .int .u8 pk.s0, .int .u8 pk.s1, .int .u8 pk.s2, .int .u8 pk.s3, .int .u8 pk.d0, .int .u8 pk.d1, .int .u8 pk.d2, .int .u8 pk.d3, .string pk.data] 32) (F))))) (by ac_rfl) ?_
  refine J_pre _ _ (fun w hs => TabP.sat hs) fun x hx => ?_
  obtain ⟨⟨hx1, hx2⟩, hx3⟩ := hx
  have hpn : ptrOf x.2.2.1 (kyOf pk) = none := by unfold ptrOf; unfold bfind at hf; rw [← hx1, List.find?_map] at hf; rw [show (x.2.2.1.find? fun e => decide (e.1.k = (kyOf pk))) = none from Option.map_eq_none_iff.1 hf]; rfl
  refine J_quiet Try.mixed (by kernel_rfl) ?_
  refine Q_v (opv_move rfl) rfl ?_
  refine Q_v (opv_nilCheck rfl) rfl ?_
  first
    | refine Q_v (opv_fieldAddr0 rfl) rfl ?_
    | refine Q_v (opv_fieldAddr rfl) rfl ?_
  refine Q_v (opv_load rfl (Rd.look rfl)) rfl ?_
  refine Q_v (opv_loadS rfl) rfl ?_
  refine Q_v (((opv_lookup (k := encKy (kyOf pk)) (f := x.2.2.2) rfl rfl (shKy _)).as (v' := .pointer (ptrOf x.2.2.1 (kyOf pk))) (hx2.ptr _)).as (v' := .pointer none) (congrArg Value.pointer hpn)) rfl ?_
  refine Q_v (opv_assign rfl) rfl ?_
  refine QL_nil ?_
  refine K_then ?_
  refine J_seq ?_
  refine J_seq ?_
  refine J_region ?_
  refine L_v (opv_move rfl) rfl ?_
  first
    | refine L_v (opv_eql rfl rfl) rfl ?_
    | refine L_v (opv_eqlS rfl rfl) rfl ?_
    | refine L_v (opv_eqlNil rfl rfl) rfl ?_
    | refine L_v (opv_eqlB rfl rfl) rfl ?_
  refine L_nil ?_
  refine K_then ?_
  refine J_cond_true rfl ?_
  refine J_seq ?_
  refine J_region ?_
  refine L_v (opv_build rfl) rfl ?_
  refine L_x rfl (opx_store rfl rfl rfl (by simp [Value.oneCell'])) (fun _ _ => ?_)
  refine L_v (opv_assign rfl) rfl ?_
  refine L_v (opv_assign rfl) rfl ?_
  refine L_nil ?_
  refine K_then ?_
  refine J_ret ?_
  refine K_then_ret ?_
  exact K_ret3c rfl rfl rfl rfl rfl () trivial rfl (Ent.trans (Ent.take (Q := (sep (cel tp [.map (some x.1), .slice x.2.1.1 (keysOf (T.pass wt now).q).length x.2.1.2, .int .i64 m, .int .i64 wt, .int .i64 (T.pass wt now).now, .int .i64 (T.pass wt now).dr] 99) (sep (mapp x.1 ksKy x.2.2.2) (sep (Own 70 10 (.slice x.2.1.1 (keysOf (T.pass wt now).q).length x.2.1.2) (keysOf (T.pass wt now).q).length (flatK (keysOf (T.pass wt now).q))) (sep (begs x.2.2.1) (F))))))) (TabP.fold x.1 x.2.1 x.2.2.1 x.2.2.2 hx1 hx2))

set_option maxHeartbeats 800000 in
theorem Put_wrong (tp : Nat) (m wt : Int) (T : TS) (now : Int) (pk : Pk) (h : timC T.now now = 0) (n : Nat) (hT : TOk n T) (hn : n ≤ 1000000) (hwt : 0 ≤ wt ∧ wt ≤ 1125899906842624) (hd : pk.data.size ≤ 140737488351232) (ho : pk.off ≠ 0) (b : Bg) (hf : bfind (T.pass wt now).q (kyOf pk) = some b) (hT1 : TOk n (T.pass wt now)) (hs : sndC pk b.data.size ≠ 0) : FSpec Try.prog 32 #[.pointer (some (ad tp 0)), .int .i64 now, .agg [.int .i64 pk.id, .bool pk.more, .int .i64 pk.off, .int .i64 pk.ttl, .int .i64 pk.proto, .int .u8 pk.s0, .int .u8 pk.s1, .int .u8 pk.s2, .int .u8 pk.s3, .int .u8 pk.d0, .int .u8 pk.d1, .int .u8 pk.d2, .int .u8 pk.d3, .string pk.data].toArray] (TabP tp m wt T) (fun _ : Unit => True) (fun _ => .tuple #[.agg [.int .i64 0, .bool false, .int .i64 0, .int .i64 0, .int .i64 0, .int .u8 0, .int .u8 0, .int .u8 0, .int .u8 0, .int .u8 0, .int .u8 0, .int .u8 0, .int .u8 0, .string ⟨#[]⟩].toArray, .bool false, .int .i64 (sndC pk b.data.size)]) (fun _ => TabP tp m wt (⟨(wob (T.pass wt now).q (kyOf pk)), (T.pass wt now).now, (T.pass wt now).dr + 1⟩ : TS)) := by
  refine FSpec.enter' Try.func32 rfl Try.ntmps32 rfl fun σ F => ?_
  refine J_seq ?_
  refine J_region ?_
  refine L_x rfl (opx_box (l := [.int .i64 pk.id, .bool pk.more, .int .i64 pk.off, .int .i64 pk.ttl, .int .i64 pk.proto, .int .u8 pk.s0, .int .u8 pk.s1, .int .u8 pk.s2, .int .u8 pk.s3, .int .u8 pk.d0, .int .u8 pk.d1, .int .u8 pk.d2, .int .u8 pk.d3, .string pk.data]) rfl rfl) (fun b5 _ => ?_)
  refine L_x rfl (opx_alloc rfl) (fun b6 _ => ?_)
  refine L_v (opv_assign rfl) rfl ?_
  refine L_v (opv_assign rfl) rfl ?_
  refine L_nil ?_
  refine K_then ?_
  refine J_seq ?_
  refine J_seq ?_
  refine J_region ?_
  refine L_v (opv_move rfl) rfl ?_
  refine L_v (opv_move rfl) rfl ?_
  refine L_x rfl (opx_call0 (Pass_ok tp m wt T now h n hT hn hwt) rfl rfl rfl) (fun _ _ => ?_)
  refine L_v (opv_assign rfl) rfl ?_
  refine L_nil ?_
  refine K_then ?_
  refine J_seq ?_
  refine J_region ?_
  refine L_v (opv_move rfl) rfl ?_
  refine L_v ((opv_neq rfl rfl).bool_f (by decide)) rfl ?_
  refine L_nil ?_
  refine K_then ?_
  refine J_cond_false rfl ?_
  refine J_skip ?_
  refine K_then ?_
  refine J_seq ?_
  refine J_block ?_
  refine J_seq ?_
  refine J_region ?_
  first
    | refine L_v (opv_fieldAddr0 rfl) rfl ?_
    | refine L_v (opv_fieldAddr rfl) rfl ?_
  refine L_v (opv_load rfl (Rd.look rfl)) rfl ?_
  refine L_v ((opv_eql rfl rfl).bool_f ho) rfl ?_
  refine L_v (opv_move rfl) rfl ?_
  refine L_gskip rfl rfl rfl ?_ (fun _ h => by cases h; rfl)
  refine L_gskip rfl rfl rfl ?_ (fun _ h => by cases h; rfl)
  refine L_gskip rfl rfl rfl ?_ (fun _ h => by cases h; rfl)
  first
    | refine L_v (opv_pick_tt rfl rfl) rfl ?_
    | refine L_v (opv_pick_ff rfl rfl) rfl ?_
    | refine L_v (opv_pick rfl rfl rfl) rfl ?_
  refine L_v (opv_assign rfl) rfl ?_
  refine L_nil ?_
  refine K_then ?_
  refine J_cond_false rfl ?_
  refine J_seq ?_
  refine J_region ?_
  first
    | refine L_v (opv_fieldAddr0 rfl) rfl ?_
    | refine L_v (opv_fieldAddr rfl) rfl ?_
  refine L_v (opv_load rfl (Rd.look rfl)) rfl ?_
  refine L_v ((opv_eql rfl rfl).bool_f ho) rfl ?_
  refine L_v (opv_assign rfl) rfl ?_
  refine L_nil ?_
  refine K_then ?_
  refine J_cond_false rfl ?_
  refine J_skip ?_
  refine K_block ?_
  refine K_then ?_
  refine J_seq ?_
  refine J_region ?_
  refine L_v (opv_loadS rfl) rfl ?_
  refine L_x rfl (opx_call0 (key_specV pk) rfl rfl rfl) (fun _ _ => ?_)
  refine L_emp ?_
  refine L_x rfl (opx_alloc rfl) (fun b10 _ => ?_)
  refine L_x rfl (opx_store rfl rfl rfl (by simp [Value.oneCell'])) (fun _ _ => ?_)
  refine L_nil ?_
  refine K_then ?_
  refine J_seq ?_
  refine J_eq (sep (TabP tp m wt (T.pass wt now)) (sep (cel b10 [.int .u8 (kyOf pk).s0, .int .u8 (kyOf pk).s1, .int .u8 (kyOf pk).s2, .int .u8 (kyOf pk).s3, .int .u8 (kyOf pk).d0, .int .u8 (kyOf pk).d1, .int .u8 (kyOf pk).d2, .int .u8 (kyOf pk).d3, .int .i64 (kyOf pk).proto, .int .i64 (kyOf pk).id] 70) (sep (cel b6 [.int .i64 0, .bool false, .int .i64 0, .int .i64 0, .int .i64 0, .int .u8 0, .int .u8 0, .int .u8 0, .int .u8 0, .int .u8 0, .int .u8 0, .int .u8 0, .int .u8 0, .string ⟨#[]⟩] 32) (sep (cel b5 [.int .i64 pk.id, .bool pk.more, .int .i64 pk.off, .int .i64 pk.ttl, .int .i64 pk.proto, .int .u8 pk.s0, .int .u8 pk.s1, .int .u8 pk.s2, .int .u8 pk.s3, .int .u8 pk.d0, .int .u8 pk.d1, .int .u8 pk.d2, .int .u8 pk.d3, .string pk.data] 32) (F))))) (by ac_rfl) ?_
  refine J_pre _ _ (fun w hs => TabP.sat hs) fun x hx => ?_
  obtain ⟨⟨hx1, hx2⟩, hx3⟩ := hx
  obtain ⟨r, a, es, f⟩ := x
  dsimp only at hx1 hx2 hx3
  obtain ⟨l1, nb, l2, hes, hbk, hl1⟩ := mid hx1 hf
  subst hes
  have hl2 := mid_rest hbk hx2.nd
  refine J_eq (sep (begP (b, nb)) (sep (cel tp [.map (some r), .slice a.1 (keysOf (T.pass wt now).q).length a.2, .int .i64 m, .int .i64 wt, .int .i64 (T.pass wt now).now, .int .i64 (T.pass wt now).dr] 99) (sep (mapp r ksKy f) (sep (Own 70 10 (.slice a.1 (keysOf (T.pass wt now).q).length a.2) (keysOf (T.pass wt now).q).length (flatK (keysOf (T.pass wt now).q))) (sep (begs l1) (sep (begs l2) (sep (cel b10 [.int .u8 (kyOf pk).s0, .int .u8 (kyOf pk).s1, .int .u8 (kyOf pk).s2, .int .u8 (kyOf pk).s3, .int .u8 (kyOf pk).d0, .int .u8 (kyOf pk).d1, .int .u8 (kyOf pk).d2, .int .u8 (kyOf pk).d3, .int .i64 (kyOf pk).proto, .int .i64 (kyOf pk).id] 70) (sep (cel b6 [.int .i64 0, .bool false, .int .i64 0, .int .i64 0, .int .i64 0, .int .u8 0, .int .u8 0, .int .u8 0, .int .u8 0, .int .u8 0, .int .u8 0, .int .u8 0, .int .u8 0, .string ⟨#[]⟩] 32) (sep (cel b5 [.int .i64 pk.id, .bool pk.more, .int .i64 pk.off, .int .i64 pk.ttl, .int .i64 pk.proto, .int .u8 pk.s0, .int .u8 pk.s1, .int .u8 pk.s2, .int .u8 pk.s3, .int .u8 pk.d0, .int .u8 pk.d1, .int .u8 pk.d2, .int .u8 pk.d3, .string pk.data] 32) (F)))))))))) (by show (sep (_) (sep (_) (sep (_) (sep (begs (l1 ++ (b, nb) :: l2)) (sep (_) (sep (_) (sep (_) (F)))))))) = _; rw [begs_app]; show (sep (_) (sep (_) (sep (_) (sep ((sep (begs l1) ((sep (begP (b, nb)) (begs l2))))) (sep (_) (sep (_) (sep (_) (F)))))))) = _; ac_rfl) ?_
  refine J_ex fun u => ?_
  refine J_eq (sep (cel nb [.int .i64 b.t, .slice u.1 (b.data).size u.2] 101) (sep (OwnB 5 u b.data) (sep (cel tp [.map (some r), .slice a.1 (keysOf (T.pass wt now).q).length a.2, .int .i64 m, .int .i64 wt, .int .i64 (T.pass wt now).now, .int .i64 (T.pass wt now).dr] 99) (sep (mapp r ksKy f) (sep (Own 70 10 (.slice a.1 (keysOf (T.pass wt now).q).length a.2) (keysOf (T.pass wt now).q).length (flatK (keysOf (T.pass wt now).q))) (sep (begs l1) (sep (begs l2) (sep (cel b10 [.int .u8 (kyOf pk).s0, .int .u8 (kyOf pk).s1, .int .u8 (kyOf pk).s2, .int .u8 (kyOf pk).s3, .int .u8 (kyOf pk).d0, .int .u8 (kyOf pk).d1, .int .u8 (kyOf pk).d2, .int .u8 (kyOf pk).d3, .int .i64 (kyOf pk).proto, .int .i64 (kyOf pk).id] 70) (sep (cel b6 [.int .i64 0, .bool false, .int .i64 0, .int .i64 0, .int .i64 0, .int .u8 0, .int .u8 0, .int .u8 0, .int .u8 0, .int .u8 0, .int .u8 0, .int .u8 0, .int .u8 0, .string ⟨#[]⟩] 32) (sep (cel b5 [.int .i64 pk.id, .bool pk.more, .int .i64 pk.off, .int .i64 pk.ttl, .int .i64 pk.proto, .int .u8 pk.s0, .int .u8 pk.s1, .int .u8 pk.s2, .int .u8 pk.s3, .int .u8 pk.d0, .int .u8 pk.d1, .int .u8 pk.d2, .int .u8 pk.d3, .string pk.data] 32) (F))))))))))) (sep_assoc _ _ _) ?_
  have hbm : b ∈ (T.pass wt now).q := by rw [← hx1]; exact List.mem_map.2 ⟨(b, nb), List.mem_append_right _ (List.mem_cons_self ..), rfl⟩
  have hbs := (hT1.bg b hbm).2
  have ht2 := hT1.dr
  have ht3 := hT1.n
  have hkl := keysOf_len (T.pass wt now).q
  have hpn : ptrOf (l1 ++ (b, nb) :: l2) (kyOf pk) = some (ad nb 0) := mid_ptr hbk hl1
  refine J_quiet Try.mixed (by kernel_rfl) ?_
  refine Q_v (opv_move rfl) rfl ?_
  refine Q_v (opv_nilCheck rfl) rfl ?_
  first
    | refine Q_v (opv_fieldAddr0 rfl) rfl ?_
    | refine Q_v (opv_fieldAddr rfl) rfl ?_
  refine Q_v (opv_load rfl (Rd.look rfl)) rfl ?_
  refine Q_v (opv_loadS rfl) rfl ?_
  refine Q_v (((opv_lookup (k := encKy (kyOf pk)) (f := f) rfl rfl (shKy _)).as (v' := .pointer (ptrOf (l1 ++ (b, nb) :: l2) (kyOf pk))) (hx2.ptr _)).as (v' := .pointer (some (ad nb 0))) (congrArg Value.pointer hpn)) rfl ?_
  refine Q_v (opv_assign rfl) rfl ?_
  refine QL_nil ?_
  refine K_then ?_
  refine J_seq ?_
  refine J_seq ?_
  refine J_region ?_
  refine L_v (opv_move rfl) rfl ?_
  first
    | refine L_v (opv_eql rfl rfl) rfl ?_
    | refine L_v (opv_eqlS rfl rfl) rfl ?_
    | refine L_v (opv_eqlNil rfl rfl) rfl ?_
    | refine L_v (opv_eqlB rfl rfl) rfl ?_
  refine L_nil ?_
  refine K_then ?_
  refine J_cond_false rfl ?_
  refine J_skip ?_
  refine K_then ?_
  refine J_seq ?_
  refine J_seq ?_
  refine J_quiet Try.mixed (by kernel_rfl) ?_
  refine Q_v (opv_loadS rfl) rfl ?_
  refine Q_v (opv_move rfl) rfl ?_
  refine Q_v (opv_nilCheck rfl) rfl ?_
  first
    | refine Q_v (opv_fieldAddr0 rfl) rfl ?_
    | refine Q_v (opv_fieldAddr rfl) rfl ?_
  refine Q_v (opv_load rfl (Rd.look rfl)) rfl ?_
  first
    | refine Q_v (opv_lenL rfl) rfl ?_
    | refine Q_v (opv_lenS rfl) rfl ?_
  refine Q_call (sound_spec pk b.data.size (by omega) (by omega)) rfl rfl (fun _ _ => rfl) (fun _ _ => Ent.refl _) rfl ?_
  refine Q_v (opv_assign rfl) rfl ?_
  refine QL_nil ?_
  refine K_then ?_
  refine J_seq ?_
  refine J_region ?_
  refine L_v (opv_move rfl) rfl ?_
  refine L_v ((opv_neq rfl rfl).bool_t hs) rfl ?_
  refine L_nil ?_
  refine K_then ?_
  refine J_cond_true rfl ?_
  refine J_seq ?_
  refine J_region ?_
  refine L_v (opv_move rfl) rfl ?_
  refine L_v (opv_loadS rfl) rfl ?_
  refine L_x rfl (opx_call0 (drop_raw tp r (.int .i64 m) (.int .i64 wt) (.int .i64 (T.pass wt now).now) a.1 a.2 (keysOf (T.pass wt now).q) f (kyOf pk) (by omega) (T.pass wt now).dr (by omega)) rfl rfl rfl) (fun z _ => ?_)
  refine L_nil ?_
  refine K_then ?_
  refine J_seq ?_
  refine J_region ?_
  refine L_v (opv_build rfl) rfl ?_
  refine L_v (opv_move rfl) rfl ?_
  refine L_x rfl (opx_store rfl rfl rfl (by simp [Value.oneCell'])) (fun _ _ => ?_)
  refine L_v (opv_assign rfl) rfl ?_
  refine L_v (opv_assign rfl) rfl ?_
  refine L_nil ?_
  refine K_then ?_
  refine J_ret ?_
  refine K_then_ret ?_
  rw [← keysOf_wob]
  exact K_ret3c rfl rfl rfl rfl rfl () trivial rfl (Ent.trans (Ent.take (Q := (sep (cel tp [.map (some r), .slice z.1 (keysOf (wob (T.pass wt now).q (kyOf pk))).length z.2, .int .i64 m, .int .i64 wt, .int .i64 (T.pass wt now).now, .int .i64 ((T.pass wt now).dr + 1)] 99) (sep (mapp r ksKy (mdel f (encKy (kyOf pk)))) (sep (Own 70 10 (.slice z.1 (keysOf (wob (T.pass wt now).q (kyOf pk))).length z.2) (keysOf (wob (T.pass wt now).q (kyOf pk))).length (flatK (keysOf (wob (T.pass wt now).q (kyOf pk))))) (sep ((sep (begs l1) (begs l2))) (F))))))) (Ent.trans (Ent.of (by rw [← begs_app])) (TabP.fold (T := (⟨(wob (T.pass wt now).q (kyOf pk)), (T.pass wt now).now, (T.pass wt now).dr + 1⟩ : TS)) r z (l1 ++ l2) (mdel f (encKy (kyOf pk))) (by show (l1 ++ l2).map (·.1) = wob (T.pass wt now).q (kyOf pk); rw [← hx1]; unfold wob; rw [List.filter_map, ← mid_filt (n := nb) hbk hl1 hl2]; rfl) (by rw [← mid_filt (n := nb) hbk hl1 hl2]; exact hx2.del _))))

set_option maxHeartbeats 800000 in
theorem Put_more (tp : Nat) (m wt : Int) (T : TS) (now : Int) (pk : Pk) (h : timC T.now now = 0) (n : Nat) (hT : TOk n T) (hn : n ≤ 1000000) (hwt : 0 ≤ wt ∧ wt ≤ 1125899906842624) (hd : pk.data.size ≤ 140737488351232) (ho : pk.off ≠ 0) (b : Bg) (hf : bfind (T.pass wt now).q (kyOf pk) = some b) (hT1 : TOk n (T.pass wt now)) (hs : sndC pk b.data.size = 0) (hm : pk.more = true) : FSpec Try.prog 32 #[.pointer (some (ad tp 0)), .int .i64 now, .agg [.int .i64 pk.id, .bool pk.more, .int .i64 pk.off, .int .i64 pk.ttl, .int .i64 pk.proto, .int .u8 pk.s0, .int .u8 pk.s1, .int .u8 pk.s2, .int .u8 pk.s3, .int .u8 pk.d0, .int .u8 pk.d1, .int .u8 pk.d2, .int .u8 pk.d3, .string pk.data].toArray] (TabP tp m wt T) (fun _ : Unit => True) (fun _ => .tuple #[.agg [.int .i64 0, .bool false, .int .i64 0, .int .i64 0, .int .i64 0, .int .u8 0, .int .u8 0, .int .u8 0, .int .u8 0, .int .u8 0, .int .u8 0, .int .u8 0, .int .u8 0, .string ⟨#[]⟩].toArray, .bool false, .int .i64 0]) (fun _ => TabP tp m wt ⟨(upd (T.pass wt now).q (kyOf pk) pk.data), (T.pass wt now).now, (T.pass wt now).dr⟩) := by
  have hsz := snd_size hs
  refine FSpec.enter' Try.func32 rfl Try.ntmps32 rfl fun σ F => ?_
  refine J_seq ?_
  refine J_region ?_
  refine L_x rfl (opx_box (l := [.int .i64 pk.id, .bool pk.more, .int .i64 pk.off, .int .i64 pk.ttl, .int .i64 pk.proto, .int .u8 pk.s0, .int .u8 pk.s1, .int .u8 pk.s2, .int .u8 pk.s3, .int .u8 pk.d0, .int .u8 pk.d1, .int .u8 pk.d2, .int .u8 pk.d3, .string pk.data]) rfl rfl) (fun b5 _ => ?_)
  refine L_x rfl (opx_alloc rfl) (fun b6 _ => ?_)
  refine L_v (opv_assign rfl) rfl ?_
  refine L_v (opv_assign rfl) rfl ?_
  refine L_nil ?_
  refine K_then ?_
  refine J_seq ?_
  refine J_seq ?_
  refine J_region ?_
  refine L_v (opv_move rfl) rfl ?_
  refine L_v (opv_move rfl) rfl ?_
  refine L_x rfl (opx_call0 (Pass_ok tp m wt T now h n hT hn hwt) rfl rfl rfl) (fun _ _ => ?_)
  refine L_v (opv_assign rfl) rfl ?_
  refine L_nil ?_
  refine K_then ?_
  refine J_seq ?_
  refine J_region ?_
  refine L_v (opv_move rfl) rfl ?_
  refine L_v ((opv_neq rfl rfl).bool_f (by decide)) rfl ?_
  refine L_nil ?_
  refine K_then ?_
  refine J_cond_false rfl ?_
  refine J_skip ?_
  refine K_then ?_
  refine J_seq ?_
  refine J_block ?_
  refine J_seq ?_
  refine J_region ?_
  first
    | refine L_v (opv_fieldAddr0 rfl) rfl ?_
    | refine L_v (opv_fieldAddr rfl) rfl ?_
  refine L_v (opv_load rfl (Rd.look rfl)) rfl ?_
  refine L_v ((opv_eql rfl rfl).bool_f ho) rfl ?_
  refine L_v (opv_move rfl) rfl ?_
  refine L_gskip rfl rfl rfl ?_ (fun _ h => by cases h; rfl)
  refine L_gskip rfl rfl rfl ?_ (fun _ h => by cases h; rfl)
  refine L_gskip rfl rfl rfl ?_ (fun _ h => by cases h; rfl)
  first
    | refine L_v (opv_pick_tt rfl rfl) rfl ?_
    | refine L_v (opv_pick_ff rfl rfl) rfl ?_
    | refine L_v (opv_pick rfl rfl rfl) rfl ?_
  refine L_v (opv_assign rfl) rfl ?_
  refine L_nil ?_
  refine K_then ?_
  refine J_cond_false rfl ?_
  refine J_seq ?_
  refine J_region ?_
  first
    | refine L_v (opv_fieldAddr0 rfl) rfl ?_
    | refine L_v (opv_fieldAddr rfl) rfl ?_
  refine L_v (opv_load rfl (Rd.look rfl)) rfl ?_
  refine L_v ((opv_eql rfl rfl).bool_f ho) rfl ?_
  refine L_v (opv_assign rfl) rfl ?_
  refine L_nil ?_
  refine K_then ?_
  refine J_cond_false rfl ?_
  refine J_skip ?_
  refine K_block ?_
  refine K_then ?_
  refine J_seq ?_
  refine J_region ?_
  refine L_v (opv_loadS rfl) rfl ?_
  refine L_x rfl (opx_call0 (key_specV pk) rfl rfl rfl) (fun _ _ => ?_)
  refine L_emp ?_
  refine L_x rfl (opx_alloc rfl) (fun b10 _ => ?_)
  refine L_x rfl (opx_store rfl rfl rfl (by simp [Value.oneCell'])) (fun _ _ => ?_)
  refine L_nil ?_
  refine K_then ?_
  refine J_seq ?_
  refine J_eq (sep (TabP tp m wt (T.pass wt now)) (sep (cel b10 [.int .u8 (kyOf pk).s0, .int .u8 (kyOf pk).s1, .int .u8 (kyOf pk).s2, .int .u8 (kyOf pk).s3, .int .u8 (kyOf pk).d0, .int .u8 (kyOf pk).d1, .int .u8 (kyOf pk).d2, .int .u8 (kyOf pk).d3, .int .i64 (kyOf pk).proto, .int .i64 (kyOf pk).id] 70) (sep (cel b6 [.int .i64 0, .bool false, .int .i64 0, .int .i64 0, .int .i64 0, .int .u8 0, .int .u8 0, .int .u8 0, .int .u8 0, .int .u8 0, .int .u8 0, .int .u8 0, .int .u8 0, .string ⟨#[]⟩] 32) (sep (cel b5 [.int .i64 pk.id, .bool pk.more, .int .i64 pk.off, .int .i64 pk.ttl, .int .i64 pk.proto, .int .u8 pk.s0, .int .u8 pk.s1, .int .u8 pk.s2, .int .u8 pk.s3, .int .u8 pk.d0, .int .u8 pk.d1, .int .u8 pk.d2, .int .u8 pk.d3, .string pk.data] 32) (F))))) (by ac_rfl) ?_
  refine J_pre _ _ (fun w hs => TabP.sat hs) fun x hx => ?_
  obtain ⟨⟨hx1, hx2⟩, hx3⟩ := hx
  obtain ⟨r, a, es, f⟩ := x
  dsimp only at hx1 hx2 hx3
  obtain ⟨l1, nb, l2, hes, hbk, hl1⟩ := mid hx1 hf
  subst hes
  have hl2 := mid_rest hbk hx2.nd
  refine J_eq (sep (begP (b, nb)) (sep (cel tp [.map (some r), .slice a.1 (keysOf (T.pass wt now).q).length a.2, .int .i64 m, .int .i64 wt, .int .i64 (T.pass wt now).now, .int .i64 (T.pass wt now).dr] 99) (sep (mapp r ksKy f) (sep (Own 70 10 (.slice a.1 (keysOf (T.pass wt now).q).length a.2) (keysOf (T.pass wt now).q).length (flatK (keysOf (T.pass wt now).q))) (sep (begs l1) (sep (begs l2) (sep (cel b10 [.int .u8 (kyOf pk).s0, .int .u8 (kyOf pk).s1, .int .u8 (kyOf pk).s2, .int .u8 (kyOf pk).s3, .int .u8 (kyOf pk).d0, .int .u8 (kyOf pk).d1, .int .u8 (kyOf pk).d2, .int .u8 (kyOf pk).d3, .int .i64 (kyOf pk).proto, .int .i64 (kyOf pk).id] 70) (sep (cel b6 [.int .i64 0, .bool false, .int .i64 0, .int .i64 0, .int .i64 0, .int .u8 0, .int .u8 0, .int .u8 0, .int .u8 0, .int .u8 0, .int .u8 0, .int .u8 0, .int .u8 0, .string ⟨#[]⟩] 32) (sep (cel b5 [.int .i64 pk.id, .bool pk.more, .int .i64 pk.off, .int .i64 pk.ttl, .int .i64 pk.proto, .int .u8 pk.s0, .int .u8 pk.s1, .int .u8 pk.s2, .int .u8 pk.s3, .int .u8 pk.d0, .int .u8 pk.d1, .int .u8 pk.d2, .int .u8 pk.d3, .string pk.data] 32) (F)))))))))) (by show (sep (_) (sep (_) (sep (_) (sep (begs (l1 ++ (b, nb) :: l2)) (sep (_) (sep (_) (sep (_) (F)))))))) = _; rw [begs_app]; show (sep (_) (sep (_) (sep (_) (sep ((sep (begs l1) ((sep (begP (b, nb)) (begs l2))))) (sep (_) (sep (_) (sep (_) (F)))))))) = _; ac_rfl) ?_
  refine J_ex fun u => ?_
  refine J_eq (sep (cel nb [.int .i64 b.t, .slice u.1 (b.data).size u.2] 101) (sep (OwnB 5 u b.data) (sep (cel tp [.map (some r), .slice a.1 (keysOf (T.pass wt now).q).length a.2, .int .i64 m, .int .i64 wt, .int .i64 (T.pass wt now).now, .int .i64 (T.pass wt now).dr] 99) (sep (mapp r ksKy f) (sep (Own 70 10 (.slice a.1 (keysOf (T.pass wt now).q).length a.2) (keysOf (T.pass wt now).q).length (flatK (keysOf (T.pass wt now).q))) (sep (begs l1) (sep (begs l2) (sep (cel b10 [.int .u8 (kyOf pk).s0, .int .u8 (kyOf pk).s1, .int .u8 (kyOf pk).s2, .int .u8 (kyOf pk).s3, .int .u8 (kyOf pk).d0, .int .u8 (kyOf pk).d1, .int .u8 (kyOf pk).d2, .int .u8 (kyOf pk).d3, .int .i64 (kyOf pk).proto, .int .i64 (kyOf pk).id] 70) (sep (cel b6 [.int .i64 0, .bool false, .int .i64 0, .int .i64 0, .int .i64 0, .int .u8 0, .int .u8 0, .int .u8 0, .int .u8 0, .int .u8 0, .int .u8 0, .int .u8 0, .int .u8 0, .string ⟨#[]⟩] 32) (sep (cel b5 [.int .i64 pk.id, .bool pk.more, .int .i64 pk.off, .int .i64 pk.ttl, .int .i64 pk.proto, .int .u8 pk.s0, .int .u8 pk.s1, .int .u8 pk.s2, .int .u8 pk.s3, .int .u8 pk.d0, .int .u8 pk.d1, .int .u8 pk.d2, .int .u8 pk.d3, .string pk.data] 32) (F))))))))))) (sep_assoc _ _ _) ?_
  have hbm : b ∈ (T.pass wt now).q := by rw [← hx1]; exact List.mem_map.2 ⟨(b, nb), List.mem_append_right _ (List.mem_cons_self ..), rfl⟩
  have hbs := (hT1.bg b hbm).2
  have ht2 := hT1.dr
  have ht3 := hT1.n
  have hkl := keysOf_len (T.pass wt now).q
  have hpn : ptrOf (l1 ++ (b, nb) :: l2) (kyOf pk) = some (ad nb 0) := mid_ptr hbk hl1
  refine J_quiet Try.mixed (by kernel_rfl) ?_
  refine Q_v (opv_move rfl) rfl ?_
  refine Q_v (opv_nilCheck rfl) rfl ?_
  first
    | refine Q_v (opv_fieldAddr0 rfl) rfl ?_
    | refine Q_v (opv_fieldAddr rfl) rfl ?_
  refine Q_v (opv_load rfl (Rd.look rfl)) rfl ?_
  refine Q_v (opv_loadS rfl) rfl ?_
  refine Q_v (((opv_lookup (k := encKy (kyOf pk)) (f := f) rfl rfl (shKy _)).as (v' := .pointer (ptrOf (l1 ++ (b, nb) :: l2) (kyOf pk))) (hx2.ptr _)).as (v' := .pointer (some (ad nb 0))) (congrArg Value.pointer hpn)) rfl ?_
  refine Q_v (opv_assign rfl) rfl ?_
  refine QL_nil ?_
  refine K_then ?_
  refine J_seq ?_
  refine J_seq ?_
  refine J_region ?_
  refine L_v (opv_move rfl) rfl ?_
  first
    | refine L_v (opv_eql rfl rfl) rfl ?_
    | refine L_v (opv_eqlS rfl rfl) rfl ?_
    | refine L_v (opv_eqlNil rfl rfl) rfl ?_
    | refine L_v (opv_eqlB rfl rfl) rfl ?_
  refine L_nil ?_
  refine K_then ?_
  refine J_cond_false rfl ?_
  refine J_skip ?_
  refine K_then ?_
  refine J_seq ?_
  refine J_seq ?_
  refine J_quiet Try.mixed (by kernel_rfl) ?_
  refine Q_v (opv_loadS rfl) rfl ?_
  refine Q_v (opv_move rfl) rfl ?_
  refine Q_v (opv_nilCheck rfl) rfl ?_
  first
    | refine Q_v (opv_fieldAddr0 rfl) rfl ?_
    | refine Q_v (opv_fieldAddr rfl) rfl ?_
  refine Q_v (opv_load rfl (Rd.look rfl)) rfl ?_
  first
    | refine Q_v (opv_lenL rfl) rfl ?_
    | refine Q_v (opv_lenS rfl) rfl ?_
  refine Q_call (sound_spec pk b.data.size (by omega) (by omega)) rfl rfl (fun _ _ => rfl) (fun _ _ => Ent.refl _) rfl ?_
  refine Q_v (opv_assign rfl) rfl ?_
  refine QL_nil ?_
  refine K_then ?_
  refine J_seq ?_
  refine J_region ?_
  refine L_v (opv_move rfl) rfl ?_
  refine L_v ((opv_neq rfl rfl).bool_f (fun n => n hs)) rfl ?_
  refine L_nil ?_
  refine K_then ?_
  refine J_cond_false rfl ?_
  refine J_skip ?_
  refine K_then ?_
  refine J_seq ?_
  refine J_steps (cel b5 [.int .i64 pk.id, .bool pk.more, .int .i64 pk.off, .int .i64 pk.ttl, .int .i64 pk.proto, .int .u8 pk.s0, .int .u8 pk.s1, .int .u8 pk.s2, .int .u8 pk.s3, .int .u8 pk.d0, .int .u8 pk.d1, .int .u8 pk.d2, .int .u8 pk.d3, .string pk.data] 32) ((sep (cel b5 [.int .i64 pk.id, .bool pk.more, .int .i64 pk.off, .int .i64 pk.ttl, .int .i64 pk.proto, .int .u8 pk.s0, .int .u8 pk.s1, .int .u8 pk.s2, .int .u8 pk.s3, .int .u8 pk.d0, .int .u8 pk.d1, .int .u8 pk.d2, .int .u8 pk.d3, .string pk.data] 32) (cel nb [.int .i64 b.t, .slice u.1 (b.data).size u.2] 101))) [10] Try.mixed ?_
  refine R_pure 0 rfl (by kernel_rfl) (by kernel_rfl) (by kernel_rfl) (by kernel_rfl) (.inr ⟨_, Take.eq (A := (sep (cel b5 [.int .i64 pk.id, .bool pk.more, .int .i64 pk.off, .int .i64 pk.ttl, .int .i64 pk.proto, .int .u8 pk.s0, .int .u8 pk.s1, .int .u8 pk.s2, .int .u8 pk.s3, .int .u8 pk.d0, .int .u8 pk.d1, .int .u8 pk.d2, .int .u8 pk.d3, .string pk.data] 32) (cel nb [.int .i64 b.t, .slice u.1 (b.data).size u.2] 101)))⟩) (opv_move rfl) rfl ?_
  refine R_pure 1 rfl (by kernel_rfl) (by kernel_rfl) (by kernel_rfl) (by kernel_rfl) (.inr ⟨_, Take.eq (A := (sep (cel b5 [.int .i64 pk.id, .bool pk.more, .int .i64 pk.off, .int .i64 pk.ttl, .int .i64 pk.proto, .int .u8 pk.s0, .int .u8 pk.s1, .int .u8 pk.s2, .int .u8 pk.s3, .int .u8 pk.d0, .int .u8 pk.d1, .int .u8 pk.d2, .int .u8 pk.d3, .string pk.data] 32) (cel nb [.int .i64 b.t, .slice u.1 (b.data).size u.2] 101)))⟩) (opv_move rfl) rfl ?_
  refine R_pure 2 rfl (by kernel_rfl) (by kernel_rfl) (by kernel_rfl) (by kernel_rfl) (.inr ⟨_, Take.eq (A := (sep (cel b5 [.int .i64 pk.id, .bool pk.more, .int .i64 pk.off, .int .i64 pk.ttl, .int .i64 pk.proto, .int .u8 pk.s0, .int .u8 pk.s1, .int .u8 pk.s2, .int .u8 pk.s3, .int .u8 pk.d0, .int .u8 pk.d1, .int .u8 pk.d2, .int .u8 pk.d3, .string pk.data] 32) (cel nb [.int .i64 b.t, .slice u.1 (b.data).size u.2] 101)))⟩) (opv_nilCheck rfl) rfl ?_
  first
    | refine R_pure 3 rfl (by kernel_rfl) (by kernel_rfl) (by kernel_rfl) (by kernel_rfl) (.inr ⟨_, Take.eq (A := (sep (cel b5 [.int .i64 pk.id, .bool pk.more, .int .i64 pk.off, .int .i64 pk.ttl, .int .i64 pk.proto, .int .u8 pk.s0, .int .u8 pk.s1, .int .u8 pk.s2, .int .u8 pk.s3, .int .u8 pk.d0, .int .u8 pk.d1, .int .u8 pk.d2, .int .u8 pk.d3, .string pk.data] 32) (cel nb [.int .i64 b.t, .slice u.1 (b.data).size u.2] 101)))⟩) (opv_fieldAddr0 rfl) rfl ?_
    | refine R_pure 3 rfl (by kernel_rfl) (by kernel_rfl) (by kernel_rfl) (by kernel_rfl) (.inr ⟨_, Take.eq (A := (sep (cel b5 [.int .i64 pk.id, .bool pk.more, .int .i64 pk.off, .int .i64 pk.ttl, .int .i64 pk.proto, .int .u8 pk.s0, .int .u8 pk.s1, .int .u8 pk.s2, .int .u8 pk.s3, .int .u8 pk.d0, .int .u8 pk.d1, .int .u8 pk.d2, .int .u8 pk.d3, .string pk.data] 32) (cel nb [.int .i64 b.t, .slice u.1 (b.data).size u.2] 101)))⟩) (opv_fieldAddr rfl) rfl ?_
  refine R_take 4 rfl (by kernel_rfl) (by kernel_rfl) (by kernel_rfl) (by kernel_rfl) (by kernel_rfl) (opv_load rfl (Rd.look rfl)) rfl ?_
  first
    | refine R_pure 5 rfl (by kernel_rfl) (by kernel_rfl) (by kernel_rfl) (by kernel_rfl) (.inr ⟨_, Take.eq (A := (sep (cel b5 [.int .i64 pk.id, .bool pk.more, .int .i64 pk.off, .int .i64 pk.ttl, .int .i64 pk.proto, .int .u8 pk.s0, .int .u8 pk.s1, .int .u8 pk.s2, .int .u8 pk.s3, .int .u8 pk.d0, .int .u8 pk.d1, .int .u8 pk.d2, .int .u8 pk.d3, .string pk.data] 32) (cel nb [.int .i64 b.t, .slice u.1 (b.data).size u.2] 101)))⟩) (opv_fieldAddr0 rfl) rfl ?_
    | refine R_pure 5 rfl (by kernel_rfl) (by kernel_rfl) (by kernel_rfl) (by kernel_rfl) (.inr ⟨_, Take.eq (A := (sep (cel b5 [.int .i64 pk.id, .bool pk.more, .int .i64 pk.off, .int .i64 pk.ttl, .int .i64 pk.proto, .int .u8 pk.s0, .int .u8 pk.s1, .int .u8 pk.s2, .int .u8 pk.s3, .int .u8 pk.d0, .int .u8 pk.d1, .int .u8 pk.d2, .int .u8 pk.d3, .string pk.data] 32) (cel nb [.int .i64 b.t, .slice u.1 (b.data).size u.2] 101)))⟩) (opv_fieldAddr rfl) rfl ?_
  refine R_take 6 rfl (by kernel_rfl) (by kernel_rfl) (by kernel_rfl) (by kernel_rfl) (by kernel_rfl) (opv_load rfl (Rd.look rfl)) rfl ?_
  refine R_only 7 rfl rfl (by kernel_rfl) (opx_appendB rfl rfl rfl rfl (by unfold maxLen; omega) (by omega) rfl) (fun _ _ => ⟨_, Take.eq (A := cel b5 [.int .i64 pk.id, .bool pk.more, .int .i64 pk.off, .int .i64 pk.ttl, .int .i64 pk.proto, .int .u8 pk.s0, .int .u8 pk.s1, .int .u8 pk.s2, .int .u8 pk.s3, .int .u8 pk.d0, .int .u8 pk.d1, .int .u8 pk.d2, .int .u8 pk.d3, .string pk.data] 32)⟩) (.inr fun _ _ => ⟨_, Take.eq (A := (sep (cel b5 [.int .i64 pk.id, .bool pk.more, .int .i64 pk.off, .int .i64 pk.ttl, .int .i64 pk.proto, .int .u8 pk.s0, .int .u8 pk.s1, .int .u8 pk.s2, .int .u8 pk.s3, .int .u8 pk.d0, .int .u8 pk.d1, .int .u8 pk.d2, .int .u8 pk.d3, .string pk.data] 32) (cel nb [.int .i64 b.t, .slice u.1 (b.data).size u.2] 101)))⟩) (fun y70 _ => ?_)
  refine R_pure 8 rfl (by kernel_rfl) (by kernel_rfl) (by kernel_rfl) (by kernel_rfl) (.inr ⟨_, Take.eq (A := (sep (cel b5 [.int .i64 pk.id, .bool pk.more, .int .i64 pk.off, .int .i64 pk.ttl, .int .i64 pk.proto, .int .u8 pk.s0, .int .u8 pk.s1, .int .u8 pk.s2, .int .u8 pk.s3, .int .u8 pk.d0, .int .u8 pk.d1, .int .u8 pk.d2, .int .u8 pk.d3, .string pk.data] 32) (cel nb [.int .i64 b.t, .slice u.1 (b.data).size u.2] 101)))⟩) (opv_nilCheck rfl) rfl ?_
  first
    | refine R_pure 9 rfl (by kernel_rfl) (by kernel_rfl) (by kernel_rfl) (by kernel_rfl) (.inr ⟨_, Take.eq (A := (sep (cel b5 [.int .i64 pk.id, .bool pk.more, .int .i64 pk.off, .int .i64 pk.ttl, .int .i64 pk.proto, .int .u8 pk.s0, .int .u8 pk.s1, .int .u8 pk.s2, .int .u8 pk.s3, .int .u8 pk.d0, .int .u8 pk.d1, .int .u8 pk.d2, .int .u8 pk.d3, .string pk.data] 32) (cel nb [.int .i64 b.t, .slice u.1 (b.data).size u.2] 101)))⟩) (opv_fieldAddr0 rfl) rfl ?_
    | refine R_pure 9 rfl (by kernel_rfl) (by kernel_rfl) (by kernel_rfl) (by kernel_rfl) (.inr ⟨_, Take.eq (A := (sep (cel b5 [.int .i64 pk.id, .bool pk.more, .int .i64 pk.off, .int .i64 pk.ttl, .int .i64 pk.proto, .int .u8 pk.s0, .int .u8 pk.s1, .int .u8 pk.s2, .int .u8 pk.s3, .int .u8 pk.d0, .int .u8 pk.d1, .int .u8 pk.d2, .int .u8 pk.d3, .string pk.data] 32) (cel nb [.int .i64 b.t, .slice u.1 (b.data).size u.2] 101)))⟩) (opv_fieldAddr rfl) rfl ?_
  refine R_only 10 rfl rfl (by kernel_rfl) (opx_store rfl rfl rfl (by simp [Value.oneCell'])) (fun _ _ => ⟨_, Take.eq (A := cel b5 [.int .i64 pk.id, .bool pk.more, .int .i64 pk.off, .int .i64 pk.ttl, .int .i64 pk.proto, .int .u8 pk.s0, .int .u8 pk.s1, .int .u8 pk.s2, .int .u8 pk.s3, .int .u8 pk.d0, .int .u8 pk.d1, .int .u8 pk.d2, .int .u8 pk.d3, .string pk.data] 32)⟩) (.inl (by kernel_rfl)) (fun _ _ => ?_)
  refine R_done (by kernel_rfl) ?_
  refine K_then ?_
  refine J_seq ?_
  refine J_seq ?_
  refine J_region ?_
  first
    | refine L_v (opv_fieldAddr0 rfl) rfl ?_
    | refine L_v (opv_fieldAddr rfl) rfl ?_
  refine L_v ((opv_load rfl (Rd.look rfl)).as (v' := .bool true) (by rw [hm])) rfl ?_
  refine L_nil ?_
  refine K_then ?_
  refine J_cond_true rfl ?_
  refine J_seq ?_
  refine J_region ?_
  refine L_v (opv_build rfl) rfl ?_
  refine L_x rfl (opx_store rfl rfl rfl (by simp [Value.oneCell'])) (fun _ _ => ?_)
  refine L_v (opv_assign rfl) rfl ?_
  refine L_v (opv_assign rfl) rfl ?_
  refine L_nil ?_
  refine K_then ?_
  refine J_ret ?_
  refine K_then_ret ?_
  have e1 : upd (T.pass wt now).q (kyOf pk) pk.data = (l1 ++ ((⟨b.k, b.t, b.data ++ pk.data⟩ : Bg), nb) :: l2).map (·.1) := by rw [← hx1]; exact mid_upd hbk hl1 hl2
  have e2 := keysOf_upd (T.pass wt now).q (kyOf pk) pk.data
  exact K_ret3c rfl rfl rfl rfl rfl () trivial rfl (Ent.trans (Ent.take (Q := (sep (cel nb [.int .i64 b.t, .slice y70.1 ((b.data ++ pk.data)).size y70.2] 101) (sep (OwnB 5 y70 (b.data ++ pk.data)) (sep (cel tp [.map (some r), .slice a.1 (keysOf (T.pass wt now).q).length a.2, .int .i64 m, .int .i64 wt, .int .i64 (T.pass wt now).now, .int .i64 (T.pass wt now).dr] 99) (sep (mapp r ksKy f) (sep (Own 70 10 (.slice a.1 (keysOf (T.pass wt now).q).length a.2) (keysOf (T.pass wt now).q).length (flatK (keysOf (T.pass wt now).q))) (sep (begs l1) (sep (begs l2) (F)))))))))) (Ent.trans (begP.fold (e := ((⟨b.k, b.t, b.data ++ pk.data⟩ : Bg), nb)) y70) (Ent.trans (Ent.of (Q := (sep (cel tp [.map (some r), .slice a.1 (keysOf (upd (T.pass wt now).q (kyOf pk) pk.data)).length a.2, .int .i64 m, .int .i64 wt, .int .i64 (T.pass wt now).now, .int .i64 (T.pass wt now).dr] 99) (sep (mapp r ksKy f) (sep (Own 70 10 (.slice a.1 (keysOf (upd (T.pass wt now).q (kyOf pk) pk.data)).length a.2) (keysOf (upd (T.pass wt now).q (kyOf pk) pk.data)).length (flatK (keysOf (upd (T.pass wt now).q (kyOf pk) pk.data)))) (sep (begs (l1 ++ ((⟨b.k, b.t, b.data ++ pk.data⟩ : Bg), nb) :: l2)) (F)))))) (by rw [begs_app, e2]; show _ = (sep (_) (sep (_) (sep (_) (sep ((sep (begs l1) ((sep (begP ((⟨b.k, b.t, b.data ++ pk.data⟩ : Bg), nb)) (begs l2))))) (F))))); ac_rfl)) (TabP.fold (T := ⟨(upd (T.pass wt now).q (kyOf pk) pk.data), (T.pass wt now).now, (T.pass wt now).dr⟩) r a (l1 ++ ((⟨b.k, b.t, b.data ++ pk.data⟩ : Bg), nb) :: l2) f e1.symm (hx2.upd rfl)))))

set_option maxHeartbeats 800000 in
theorem Put_last (tp : Nat) (m wt : Int) (T : TS) (now : Int) (pk : Pk) (h : timC T.now now = 0) (n : Nat) (hT : TOk n T) (hn : n ≤ 1000000) (hwt : 0 ≤ wt ∧ wt ≤ 1125899906842624) (hd : pk.data.size ≤ 140737488351232) (ho : pk.off ≠ 0) (b : Bg) (hf : bfind (T.pass wt now).q (kyOf pk) = some b) (hT1 : TOk n (T.pass wt now)) (hs : sndC pk b.data.size = 0) (hm : pk.more = false) : FSpec Try.prog 32 #[.pointer (some (ad tp 0)), .int .i64 now, .agg [.int .i64 pk.id, .bool pk.more, .int .i64 pk.off, .int .i64 pk.ttl, .int .i64 pk.proto, .int .u8 pk.s0, .int .u8 pk.s1, .int .u8 pk.s2, .int .u8 pk.s3, .int .u8 pk.d0, .int .u8 pk.d1, .int .u8 pk.d2, .int .u8 pk.d3, .string pk.data].toArray] (TabP tp m wt T) (fun _ : Unit => True) (fun _ => .tuple #[.agg [.int .i64 pk.id, .bool pk.more, .int .i64 0, .int .i64 pk.ttl, .int .i64 pk.proto, .int .u8 pk.s0, .int .u8 pk.s1, .int .u8 pk.s2, .int .u8 pk.s3, .int .u8 pk.d0, .int .u8 pk.d1, .int .u8 pk.d2, .int .u8 pk.d3, .string (b.data ++ pk.data)].toArray, .bool true, .int .i64 0]) (fun _ => TabP tp m wt (⟨(wob (T.pass wt now).q (kyOf pk)), (T.pass wt now).now, (T.pass wt now).dr⟩ : TS)) := by
  have hsz := snd_size hs
  refine FSpec.enter' Try.func32 rfl Try.ntmps32 rfl fun σ F => ?_
  refine J_seq ?_
  refine J_region ?_
  refine L_x rfl (opx_box (l := [.int .i64 pk.id, .bool pk.more, .int .i64 pk.off, .int .i64 pk.ttl, .int .i64 pk.proto, .int .u8 pk.s0, .int .u8 pk.s1, .int .u8 pk.s2, .int .u8 pk.s3, .int .u8 pk.d0, .int .u8 pk.d1, .int .u8 pk.d2, .int .u8 pk.d3, .string pk.data]) rfl rfl) (fun b5 _ => ?_)
  refine L_x rfl (opx_alloc rfl) (fun b6 _ => ?_)
  refine L_v (opv_assign rfl) rfl ?_
  refine L_v (opv_assign rfl) rfl ?_
  refine L_nil ?_
  refine K_then ?_
  refine J_seq ?_
  refine J_seq ?_
  refine J_region ?_
  refine L_v (opv_move rfl) rfl ?_
  refine L_v (opv_move rfl) rfl ?_
  refine L_x rfl (opx_call0 (Pass_ok tp m wt T now h n hT hn hwt) rfl rfl rfl) (fun _ _ => ?_)
  refine L_v (opv_assign rfl) rfl ?_
  refine L_nil ?_
  refine K_then ?_
  refine J_seq ?_
  refine J_region ?_
  refine L_v (opv_move rfl) rfl ?_
  refine L_v ((opv_neq rfl rfl).bool_f (by decide)) rfl ?_
  refine L_nil ?_
  refine K_then ?_
  refine J_cond_false rfl ?_
  refine J_skip ?_
  refine K_then ?_
  refine J_seq ?_
  refine J_block ?_
  refine J_seq ?_
  refine J_region ?_
  first
    | refine L_v (opv_fieldAddr0 rfl) rfl ?_
    | refine L_v (opv_fieldAddr rfl) rfl ?_
  refine L_v (opv_load rfl (Rd.look rfl)) rfl ?_
  refine L_v ((opv_eql rfl rfl).bool_f ho) rfl ?_
  refine L_v (opv_move rfl) rfl ?_
  refine L_gskip rfl rfl rfl ?_ (fun _ h => by cases h; rfl)
  refine L_gskip rfl rfl rfl ?_ (fun _ h => by cases h; rfl)
  refine L_gskip rfl rfl rfl ?_ (fun _ h => by cases h; rfl)
  first
    | refine L_v (opv_pick_tt rfl rfl) rfl ?_
    | refine L_v (opv_pick_ff rfl rfl) rfl ?_
    | refine L_v (opv_pick rfl rfl rfl) rfl ?_
  refine L_v (opv_assign rfl) rfl ?_
  refine L_nil ?_
  refine K_then ?_
  refine J_cond_false rfl ?_
  refine J_seq ?_
  refine J_region ?_
  first
    | refine L_v (opv_fieldAddr0 rfl) rfl ?_
    | refine L_v (opv_fieldAddr rfl) rfl ?_
  refine L_v (opv_load rfl (Rd.look rfl)) rfl ?_
  refine L_v ((opv_eql rfl rfl).bool_f ho) rfl ?_
  refine L_v (opv_assign rfl) rfl ?_
  refine L_nil ?_
  refine K_then ?_
  refine J_cond_false rfl ?_
  refine J_skip ?_
  refine K_block ?_
  refine K_then ?_
  refine J_seq ?_
  refine J_region ?_
  refine L_v (opv_loadS rfl) rfl ?_
  refine L_x rfl (opx_call0 (key_specV pk) rfl rfl rfl) (fun _ _ => ?_)
  refine L_emp ?_
  refine L_x rfl (opx_alloc rfl) (fun b10 _ => ?_)
  refine L_x rfl (opx_store rfl rfl rfl (by simp [Value.oneCell'])) (fun _ _ => ?_)
  refine L_nil ?_
  refine K_then ?_
  refine J_seq ?_
  refine J_eq (sep (TabP tp m wt (T.pass wt now)) (sep (cel b10 [.int .u8 (kyOf pk).s0, .int .u8 (kyOf pk).s1, .int .u8 (kyOf pk).s2, .int .u8 (kyOf pk).s3, .int .u8 (kyOf pk).d0, .int .u8 (kyOf pk).d1, .int .u8 (kyOf pk).d2, .int .u8 (kyOf pk).d3, .int .i64 (kyOf pk).proto, .int .i64 (kyOf pk).id] 70) (sep (cel b6 [.int .i64 0, .bool false, .int .i64 0, .int .i64 0, .int .i64 0, .int .u8 0, .int .u8 0, .int .u8 0, .int .u8 0, .int .u8 0, .int .u8 0, .int .u8 0, .int .u8 0, .string ⟨#[]⟩] 32) (sep (cel b5 [.int .i64 pk.id, .bool pk.more, .int .i64 pk.off, .int .i64 pk.ttl, .int .i64 pk.proto, .int .u8 pk.s0, .int .u8 pk.s1, .int .u8 pk.s2, .int .u8 pk.s3, .int .u8 pk.d0, .int .u8 pk.d1, .int .u8 pk.d2, .int .u8 pk.d3, .string pk.data] 32) (F))))) (by ac_rfl) ?_
  refine J_pre _ _ (fun w hs => TabP.sat hs) fun x hx => ?_
  obtain ⟨⟨hx1, hx2⟩, hx3⟩ := hx
  obtain ⟨r, a, es, f⟩ := x
  dsimp only at hx1 hx2 hx3
  obtain ⟨l1, nb, l2, hes, hbk, hl1⟩ := mid hx1 hf
  subst hes
  have hl2 := mid_rest hbk hx2.nd
  refine J_eq (sep (begP (b, nb)) (sep (cel tp [.map (some r), .slice a.1 (keysOf (T.pass wt now).q).length a.2, .int .i64 m, .int .i64 wt, .int .i64 (T.pass wt now).now, .int .i64 (T.pass wt now).dr] 99) (sep (mapp r ksKy f) (sep (Own 70 10 (.slice a.1 (keysOf (T.pass wt now).q).length a.2) (keysOf (T.pass wt now).q).length (flatK (keysOf (T.pass wt now).q))) (sep (begs l1) (sep (begs l2) (sep (cel b10 [.int .u8 (kyOf pk).s0, .int .u8 (kyOf pk).s1, .int .u8 (kyOf pk).s2, .int .u8 (kyOf pk).s3, .int .u8 (kyOf pk).d0, .int .u8 (kyOf pk).d1, .int .u8 (kyOf pk).d2, .int .u8 (kyOf pk).d3, .int .i64 (kyOf pk).proto, .int .i64 (kyOf pk).id] 70) (sep (cel b6 [.int .i64 0, .bool false, .int .i64 0, .int .i64 0, .int .i64 0, .int .u8 0, .int .u8 0, .int .u8 0, .int .u8 0, .int .u8 0, .int .u8 0, .int .u8 0, .int .u8 0, .string ⟨#[]⟩] 32) (sep (cel b5 [.int .i64 pk.id, .bool pk.more, .int .i64 pk.off, .int .i64 pk.ttl, .int .i64 pk.proto, .int .u8 pk.s0, .int .u8 pk.s1, .int .u8 pk.s2, .int .u8 pk.s3, .int .u8 pk.d0, .int .u8 pk.d1, .int .u8 pk.d2, .int .u8 pk.d3, .string pk.data] 32) (F)))))))))) (by show (sep (_) (sep (_) (sep (_) (sep (begs (l1 ++ (b, nb) :: l2)) (sep (_) (sep (_) (sep (_) (F)))))))) = _; rw [begs_app]; show (sep (_) (sep (_) (sep (_) (sep ((sep (begs l1) ((sep (begP (b, nb)) (begs l2))))) (sep (_) (sep (_) (sep (_) (F)))))))) = _; ac_rfl) ?_
  refine J_ex fun u => ?_
  refine J_eq (sep (cel nb [.int .i64 b.t, .slice u.1 (b.data).size u.2] 101) (sep (OwnB 5 u b.data) (sep (cel tp [.map (some r), .slice a.1 (keysOf (T.pass wt now).q).length a.2, .int .i64 m, .int .i64 wt, .int .i64 (T.pass wt now).now, .int .i64 (T.pass wt now).dr] 99) (sep (mapp r ksKy f) (sep (Own 70 10 (.slice a.1 (keysOf (T.pass wt now).q).length a.2) (keysOf (T.pass wt now).q).length (flatK (keysOf (T.pass wt now).q))) (sep (begs l1) (sep (begs l2) (sep (cel b10 [.int .u8 (kyOf pk).s0, .int .u8 (kyOf pk).s1, .int .u8 (kyOf pk).s2, .int .u8 (kyOf pk).s3, .int .u8 (kyOf pk).d0, .int .u8 (kyOf pk).d1, .int .u8 (kyOf pk).d2, .int .u8 (kyOf pk).d3, .int .i64 (kyOf pk).proto, .int .i64 (kyOf pk).id] 70) (sep (cel b6 [.int .i64 0, .bool false, .int .i64 0, .int .i64 0, .int .i64 0, .int .u8 0, .int .u8 0, .int .u8 0, .int .u8 0, .int .u8 0, .int .u8 0, .int .u8 0, .int .u8 0, .string ⟨#[]⟩] 32) (sep (cel b5 [.int .i64 pk.id, .bool pk.more, .int .i64 pk.off, .int .i64 pk.ttl, .int .i64 pk.proto, .int .u8 pk.s0, .int .u8 pk.s1, .int .u8 pk.s2, .int .u8 pk.s3, .int .u8 pk.d0, .int .u8 pk.d1, .int .u8 pk.d2, .int .u8 pk.d3, .string pk.data] 32) (F))))))))))) (sep_assoc _ _ _) ?_
  have hbm : b ∈ (T.pass wt now).q := by rw [← hx1]; exact List.mem_map.2 ⟨(b, nb), List.mem_append_right _ (List.mem_cons_self ..), rfl⟩
  have hbs := (hT1.bg b hbm).2
  have ht2 := hT1.dr
  have ht3 := hT1.n
  have hkl := keysOf_len (T.pass wt now).q
  have hpn : ptrOf (l1 ++ (b, nb) :: l2) (kyOf pk) = some (ad nb 0) := mid_ptr hbk hl1
  refine J_quiet Try.mixed (by kernel_rfl) ?_
  refine Q_v (opv_move rfl) rfl ?_
  refine Q_v (opv_nilCheck rfl) rfl ?_
  first
    | refine Q_v (opv_fieldAddr0 rfl) rfl ?_
    | refine Q_v (opv_fieldAddr rfl) rfl ?_
  refine Q_v (opv_load rfl (Rd.look rfl)) rfl ?_
  refine Q_v (opv_loadS rfl) rfl ?_
  refine Q_v (((opv_lookup (k := encKy (kyOf pk)) (f := f) rfl rfl (shKy _)).as (v' := .pointer (ptrOf (l1 ++ (b, nb) :: l2) (kyOf pk))) (hx2.ptr _)).as (v' := .pointer (some (ad nb 0))) (congrArg Value.pointer hpn)) rfl ?_
  refine Q_v (opv_assign rfl) rfl ?_
  refine QL_nil ?_
  refine K_then ?_
  refine J_seq ?_
  refine J_seq ?_
  refine J_region ?_
  refine L_v (opv_move rfl) rfl ?_
  first
    | refine L_v (opv_eql rfl rfl) rfl ?_
    | refine L_v (opv_eqlS rfl rfl) rfl ?_
    | refine L_v (opv_eqlNil rfl rfl) rfl ?_
    | refine L_v (opv_eqlB rfl rfl) rfl ?_
  refine L_nil ?_
  refine K_then ?_
  refine J_cond_false rfl ?_
  refine J_skip ?_
  refine K_then ?_
  refine J_seq ?_
  refine J_seq ?_
  refine J_quiet Try.mixed (by kernel_rfl) ?_
  refine Q_v (opv_loadS rfl) rfl ?_
  refine Q_v (opv_move rfl) rfl ?_
  refine Q_v (opv_nilCheck rfl) rfl ?_
  first
    | refine Q_v (opv_fieldAddr0 rfl) rfl ?_
    | refine Q_v (opv_fieldAddr rfl) rfl ?_
  refine Q_v (opv_load rfl (Rd.look rfl)) rfl ?_
  first
    | refine Q_v (opv_lenL rfl) rfl ?_
    | refine Q_v (opv_lenS rfl) rfl ?_
  refine Q_call (sound_spec pk b.data.size (by omega) (by omega)) rfl rfl (fun _ _ => rfl) (fun _ _ => Ent.refl _) rfl ?_
  refine Q_v (opv_assign rfl) rfl ?_
  refine QL_nil ?_
  refine K_then ?_
  refine J_seq ?_
  refine J_region ?_
  refine L_v (opv_move rfl) rfl ?_
  refine L_v ((opv_neq rfl rfl).bool_f (fun n => n hs)) rfl ?_
  refine L_nil ?_
  refine K_then ?_
  refine J_cond_false rfl ?_
  refine J_skip ?_
  refine K_then ?_
  refine J_seq ?_
  refine J_steps (cel b5 [.int .i64 pk.id, .bool pk.more, .int .i64 pk.off, .int .i64 pk.ttl, .int .i64 pk.proto, .int .u8 pk.s0, .int .u8 pk.s1, .int .u8 pk.s2, .int .u8 pk.s3, .int .u8 pk.d0, .int .u8 pk.d1, .int .u8 pk.d2, .int .u8 pk.d3, .string pk.data] 32) ((sep (cel b5 [.int .i64 pk.id, .bool pk.more, .int .i64 pk.off, .int .i64 pk.ttl, .int .i64 pk.proto, .int .u8 pk.s0, .int .u8 pk.s1, .int .u8 pk.s2, .int .u8 pk.s3, .int .u8 pk.d0, .int .u8 pk.d1, .int .u8 pk.d2, .int .u8 pk.d3, .string pk.data] 32) (cel nb [.int .i64 b.t, .slice u.1 (b.data).size u.2] 101))) [10] Try.mixed ?_
  refine R_pure 0 rfl (by kernel_rfl) (by kernel_rfl) (by kernel_rfl) (by kernel_rfl) (.inr ⟨_, Take.eq (A := (sep (cel b5 [.int .i64 pk.id, .bool pk.more, .int .i64 pk.off, .int .i64 pk.ttl, .int .i64 pk.proto, .int .u8 pk.s0, .int .u8 pk.s1, .int .u8 pk.s2, .int .u8 pk.s3, .int .u8 pk.d0, .int .u8 pk.d1, .int .u8 pk.d2, .int .u8 pk.d3, .string pk.data] 32) (cel nb [.int .i64 b.t, .slice u.1 (b.data).size u.2] 101)))⟩) (opv_move rfl) rfl ?_
  refine R_pure 1 rfl (by kernel_rfl) (by kernel_rfl) (by kernel_rfl) (by kernel_rfl) (.inr ⟨_, Take.eq (A := (sep (cel b5 [.int .i64 pk.id, .bool pk.more, .int .i64 pk.off, .int .i64 pk.ttl, .int .i64 pk.proto, .int .u8 pk.s0, .int .u8 pk.s1, .int .u8 pk.s2, .int .u8 pk.s3, .int .u8 pk.d0, .int .u8 pk.d1, .int .u8 pk.d2, .int .u8 pk.d3, .string pk.data] 32) (cel nb [.int .i64 b.t, .slice u.1 (b.data).size u.2] 101)))⟩) (opv_move rfl) rfl ?_
  refine R_pure 2 rfl (by kernel_rfl) (by kernel_rfl) (by kernel_rfl) (by kernel_rfl) (.inr ⟨_, Take.eq (A := (sep (cel b5 [.int .i64 pk.id, .bool pk.more, .int .i64 pk.off, .int .i64 pk.ttl, .int .i64 pk.proto, .int .u8 pk.s0, .int .u8 pk.s1, .int .u8 pk.s2, .int .u8 pk.s3, .int .u8 pk.d0, .int .u8 pk.d1, .int .u8 pk.d2, .int .u8 pk.d3, .string pk.data] 32) (cel nb [.int .i64 b.t, .slice u.1 (b.data).size u.2] 101)))⟩) (opv_nilCheck rfl) rfl ?_
  first
    | refine R_pure 3 rfl (by kernel_rfl) (by kernel_rfl) (by kernel_rfl) (by kernel_rfl) (.inr ⟨_, Take.eq (A := (sep (cel b5 [.int .i64 pk.id, .bool pk.more, .int .i64 pk.off, .int .i64 pk.ttl, .int .i64 pk.proto, .int .u8 pk.s0, .int .u8 pk.s1, .int .u8 pk.s2, .int .u8 pk.s3, .int .u8 pk.d0, .int .u8 pk.d1, .int .u8 pk.d2, .int .u8 pk.d3, .string pk.data] 32) (cel nb [.int .i64 b.t, .slice u.1 (b.data).size u.2] 101)))⟩) (opv_fieldAddr0 rfl) rfl ?_
    | refine R_pure 3 rfl (by kernel_rfl) (by kernel_rfl) (by kernel_rfl) (by kernel_rfl) (.inr ⟨_, Take.eq (A := (sep (cel b5 [.int .i64 pk.id, .bool pk.more, .int .i64 pk.off, .int .i64 pk.ttl, .int .i64 pk.proto, .int .u8 pk.s0, .int .u8 pk.s1, .int .u8 pk.s2, .int .u8 pk.s3, .int .u8 pk.d0, .int .u8 pk.d1, .int .u8 pk.d2, .int .u8 pk.d3, .string pk.data] 32) (cel nb [.int .i64 b.t, .slice u.1 (b.data).size u.2] 101)))⟩) (opv_fieldAddr rfl) rfl ?_
  refine R_take 4 rfl (by kernel_rfl) (by kernel_rfl) (by kernel_rfl) (by kernel_rfl) (by kernel_rfl) (opv_load rfl (Rd.look rfl)) rfl ?_
  first
    | refine R_pure 5 rfl (by kernel_rfl) (by kernel_rfl) (by kernel_rfl) (by kernel_rfl) (.inr ⟨_, Take.eq (A := (sep (cel b5 [.int .i64 pk.id, .bool pk.more, .int .i64 pk.off, .int .i64 pk.ttl, .int .i64 pk.proto, .int .u8 pk.s0, .int .u8 pk.s1, .int .u8 pk.s2, .int .u8 pk.s3, .int .u8 pk.d0, .int .u8 pk.d1, .int .u8 pk.d2, .int .u8 pk.d3, .string pk.data] 32) (cel nb [.int .i64 b.t, .slice u.1 (b.data).size u.2] 101)))⟩) (opv_fieldAddr0 rfl) rfl ?_
    | refine R_pure 5 rfl (by kernel_rfl) (by kernel_rfl) (by kernel_rfl) (by kernel_rfl) (.inr ⟨_, Take.eq (A := (sep (cel b5 [.int .i64 pk.id, .bool pk.more, .int .i64 pk.off, .int .i64 pk.ttl, .int .i64 pk.proto, .int .u8 pk.s0, .int .u8 pk.s1, .int .u8 pk.s2, .int .u8 pk.s3, .int .u8 pk.d0, .int .u8 pk.d1, .int .u8 pk.d2, .int .u8 pk.d3, .string pk.data] 32) (cel nb [.int .i64 b.t, .slice u.1 (b.data).size u.2] 101)))⟩) (opv_fieldAddr rfl) rfl ?_
  refine R_take 6 rfl (by kernel_rfl) (by kernel_rfl) (by kernel_rfl) (by kernel_rfl) (by kernel_rfl) (opv_load rfl (Rd.look rfl)) rfl ?_
  refine R_only 7 rfl rfl (by kernel_rfl) (opx_appendB rfl rfl rfl rfl (by unfold maxLen; omega) (by omega) rfl) (fun _ _ => ⟨_, Take.eq (A := cel b5 [.int .i64 pk.id, .bool pk.more, .int .i64 pk.off, .int .i64 pk.ttl, .int .i64 pk.proto, .int .u8 pk.s0, .int .u8 pk.s1, .int .u8 pk.s2, .int .u8 pk.s3, .int .u8 pk.d0, .int .u8 pk.d1, .int .u8 pk.d2, .int .u8 pk.d3, .string pk.data] 32)⟩) (.inr fun _ _ => ⟨_, Take.eq (A := (sep (cel b5 [.int .i64 pk.id, .bool pk.more, .int .i64 pk.off, .int .i64 pk.ttl, .int .i64 pk.proto, .int .u8 pk.s0, .int .u8 pk.s1, .int .u8 pk.s2, .int .u8 pk.s3, .int .u8 pk.d0, .int .u8 pk.d1, .int .u8 pk.d2, .int .u8 pk.d3, .string pk.data] 32) (cel nb [.int .i64 b.t, .slice u.1 (b.data).size u.2] 101)))⟩) (fun y70 _ => ?_)
  refine R_pure 8 rfl (by kernel_rfl) (by kernel_rfl) (by kernel_rfl) (by kernel_rfl) (.inr ⟨_, Take.eq (A := (sep (cel b5 [.int .i64 pk.id, .bool pk.more, .int .i64 pk.off, .int .i64 pk.ttl, .int .i64 pk.proto, .int .u8 pk.s0, .int .u8 pk.s1, .int .u8 pk.s2, .int .u8 pk.s3, .int .u8 pk.d0, .int .u8 pk.d1, .int .u8 pk.d2, .int .u8 pk.d3, .string pk.data] 32) (cel nb [.int .i64 b.t, .slice u.1 (b.data).size u.2] 101)))⟩) (opv_nilCheck rfl) rfl ?_
  first
    | refine R_pure 9 rfl (by kernel_rfl) (by kernel_rfl) (by kernel_rfl) (by kernel_rfl) (.inr ⟨_, Take.eq (A := (sep (cel b5 [.int .i64 pk.id, .bool pk.more, .int .i64 pk.off, .int .i64 pk.ttl, .int .i64 pk.proto, .int .u8 pk.s0, .int .u8 pk.s1, .int .u8 pk.s2, .int .u8 pk.s3, .int .u8 pk.d0, .int .u8 pk.d1, .int .u8 pk.d2, .int .u8 pk.d3, .string pk.data] 32) (cel nb [.int .i64 b.t, .slice u.1 (b.data).size u.2] 101)))⟩) (opv_fieldAddr0 rfl) rfl ?_
    | refine R_pure 9 rfl (by kernel_rfl) (by kernel_rfl) (by kernel_rfl) (by kernel_rfl) (.inr ⟨_, Take.eq (A := (sep (cel b5 [.int .i64 pk.id, .bool pk.more, .int .i64 pk.off, .int .i64 pk.ttl, .int .i64 pk.proto, .int .u8 pk.s0, .int .u8 pk.s1, .int .u8 pk.s2, .int .u8 pk.s3, .int .u8 pk.d0, .int .u8 pk.d1, .int .u8 pk.d2, .int .u8 pk.d3, .string pk.data] 32) (cel nb [.int .i64 b.t, .slice u.1 (b.data).size u.2] 101)))⟩) (opv_fieldAddr rfl) rfl ?_
  refine R_only 10 rfl rfl (by kernel_rfl) (opx_store rfl rfl rfl (by simp [Value.oneCell'])) (fun _ _ => ⟨_, Take.eq (A := cel b5 [.int .i64 pk.id, .bool pk.more, .int .i64 pk.off, .int .i64 pk.ttl, .int .i64 pk.proto, .int .u8 pk.s0, .int .u8 pk.s1, .int .u8 pk.s2, .int .u8 pk.s3, .int .u8 pk.d0, .int .u8 pk.d1, .int .u8 pk.d2, .int .u8 pk.d3, .string pk.data] 32)⟩) (.inl (by kernel_rfl)) (fun _ _ => ?_)
  refine R_done (by kernel_rfl) ?_
  refine K_then ?_
  refine J_seq ?_
  refine J_seq ?_
  refine J_region ?_
  first
    | refine L_v (opv_fieldAddr0 rfl) rfl ?_
    | refine L_v (opv_fieldAddr rfl) rfl ?_
  refine L_v ((opv_load rfl (Rd.look rfl)).as (v' := .bool false) (by rw [hm])) rfl ?_
  refine L_nil ?_
  refine K_then ?_
  refine J_cond_false rfl ?_
  refine J_skip ?_
  refine K_then ?_
  refine J_seq ?_
  refine J_region ?_
  refine L_v (opv_move rfl) rfl ?_
  refine L_v (opv_loadS rfl) rfl ?_
  refine L_x rfl (opx_call0 (forget_raw tp r (.int .i64 m) (.int .i64 wt) (.int .i64 (T.pass wt now).now) (.int .i64 (T.pass wt now).dr) a.1 a.2 (keysOf (T.pass wt now).q) f (kyOf pk) (by omega)) rfl rfl rfl) (fun z _ => ?_)
  refine L_nil ?_
  refine K_then ?_
  refine J_seq ?_
  refine J_steps ((sep (cel nb [.int .i64 b.t, .slice y70.1 ((b.data ++ pk.data)).size y70.2] 101) (OwnB 5 y70 (b.data ++ pk.data)))) ((sep (cel nb [.int .i64 b.t, .slice y70.1 ((b.data ++ pk.data)).size y70.2] 101) (sep (OwnB 5 y70 (b.data ++ pk.data)) (cel b5 [.int .i64 pk.id, .bool pk.more, .int .i64 pk.off, .int .i64 pk.ttl, .int .i64 pk.proto, .int .u8 pk.s0, .int .u8 pk.s1, .int .u8 pk.s2, .int .u8 pk.s3, .int .u8 pk.d0, .int .u8 pk.d1, .int .u8 pk.d2, .int .u8 pk.d3, .string pk.data] 32)))) [6, 8] Try.mixed ?_
  refine R_pure 0 rfl (by kernel_rfl) (by kernel_rfl) (by kernel_rfl) (by kernel_rfl) (.inr ⟨_, Take.eq (A := (sep (cel nb [.int .i64 b.t, .slice y70.1 ((b.data ++ pk.data)).size y70.2] 101) (sep (OwnB 5 y70 (b.data ++ pk.data)) (cel b5 [.int .i64 pk.id, .bool pk.more, .int .i64 pk.off, .int .i64 pk.ttl, .int .i64 pk.proto, .int .u8 pk.s0, .int .u8 pk.s1, .int .u8 pk.s2, .int .u8 pk.s3, .int .u8 pk.d0, .int .u8 pk.d1, .int .u8 pk.d2, .int .u8 pk.d3, .string pk.data] 32))))⟩) (opv_move rfl) rfl ?_
  refine R_pure 1 rfl (by kernel_rfl) (by kernel_rfl) (by kernel_rfl) (by kernel_rfl) (.inr ⟨_, Take.eq (A := (sep (cel nb [.int .i64 b.t, .slice y70.1 ((b.data ++ pk.data)).size y70.2] 101) (sep (OwnB 5 y70 (b.data ++ pk.data)) (cel b5 [.int .i64 pk.id, .bool pk.more, .int .i64 pk.off, .int .i64 pk.ttl, .int .i64 pk.proto, .int .u8 pk.s0, .int .u8 pk.s1, .int .u8 pk.s2, .int .u8 pk.s3, .int .u8 pk.d0, .int .u8 pk.d1, .int .u8 pk.d2, .int .u8 pk.d3, .string pk.data] 32))))⟩) (opv_nilCheck rfl) rfl ?_
  first
    | refine R_pure 2 rfl (by kernel_rfl) (by kernel_rfl) (by kernel_rfl) (by kernel_rfl) (.inr ⟨_, Take.eq (A := (sep (cel nb [.int .i64 b.t, .slice y70.1 ((b.data ++ pk.data)).size y70.2] 101) (sep (OwnB 5 y70 (b.data ++ pk.data)) (cel b5 [.int .i64 pk.id, .bool pk.more, .int .i64 pk.off, .int .i64 pk.ttl, .int .i64 pk.proto, .int .u8 pk.s0, .int .u8 pk.s1, .int .u8 pk.s2, .int .u8 pk.s3, .int .u8 pk.d0, .int .u8 pk.d1, .int .u8 pk.d2, .int .u8 pk.d3, .string pk.data] 32))))⟩) (opv_fieldAddr0 rfl) rfl ?_
    | refine R_pure 2 rfl (by kernel_rfl) (by kernel_rfl) (by kernel_rfl) (by kernel_rfl) (.inr ⟨_, Take.eq (A := (sep (cel nb [.int .i64 b.t, .slice y70.1 ((b.data ++ pk.data)).size y70.2] 101) (sep (OwnB 5 y70 (b.data ++ pk.data)) (cel b5 [.int .i64 pk.id, .bool pk.more, .int .i64 pk.off, .int .i64 pk.ttl, .int .i64 pk.proto, .int .u8 pk.s0, .int .u8 pk.s1, .int .u8 pk.s2, .int .u8 pk.s3, .int .u8 pk.d0, .int .u8 pk.d1, .int .u8 pk.d2, .int .u8 pk.d3, .string pk.data] 32))))⟩) (opv_fieldAddr rfl) rfl ?_
  refine R_pure 3 rfl (by kernel_rfl) (by kernel_rfl) (by kernel_rfl) (by kernel_rfl) (.inr ⟨_, Take.eq (A := (sep (cel nb [.int .i64 b.t, .slice y70.1 ((b.data ++ pk.data)).size y70.2] 101) (sep (OwnB 5 y70 (b.data ++ pk.data)) (cel b5 [.int .i64 pk.id, .bool pk.more, .int .i64 pk.off, .int .i64 pk.ttl, .int .i64 pk.proto, .int .u8 pk.s0, .int .u8 pk.s1, .int .u8 pk.s2, .int .u8 pk.s3, .int .u8 pk.d0, .int .u8 pk.d1, .int .u8 pk.d2, .int .u8 pk.d3, .string pk.data] 32))))⟩) (opv_load rfl (Rd.look rfl)) rfl ?_
  refine R_pure 4 rfl (by kernel_rfl) (by kernel_rfl) (by kernel_rfl) (by kernel_rfl) (.inr ⟨_, Take.eq (A := (sep (cel nb [.int .i64 b.t, .slice y70.1 ((b.data ++ pk.data)).size y70.2] 101) (sep (OwnB 5 y70 (b.data ++ pk.data)) (cel b5 [.int .i64 pk.id, .bool pk.more, .int .i64 pk.off, .int .i64 pk.ttl, .int .i64 pk.proto, .int .u8 pk.s0, .int .u8 pk.s1, .int .u8 pk.s2, .int .u8 pk.s3, .int .u8 pk.d0, .int .u8 pk.d1, .int .u8 pk.d2, .int .u8 pk.d3, .string pk.data] 32))))⟩) (opv_b2sB rfl rfl) rfl ?_
  first
    | refine R_pure 5 rfl (by kernel_rfl) (by kernel_rfl) (by kernel_rfl) (by kernel_rfl) (.inr ⟨_, Take.eq (A := (sep (cel nb [.int .i64 b.t, .slice y70.1 ((b.data ++ pk.data)).size y70.2] 101) (sep (OwnB 5 y70 (b.data ++ pk.data)) (cel b5 [.int .i64 pk.id, .bool pk.more, .int .i64 pk.off, .int .i64 pk.ttl, .int .i64 pk.proto, .int .u8 pk.s0, .int .u8 pk.s1, .int .u8 pk.s2, .int .u8 pk.s3, .int .u8 pk.d0, .int .u8 pk.d1, .int .u8 pk.d2, .int .u8 pk.d3, .string pk.data] 32))))⟩) (opv_fieldAddr0 rfl) rfl ?_
    | refine R_pure 5 rfl (by kernel_rfl) (by kernel_rfl) (by kernel_rfl) (by kernel_rfl) (.inr ⟨_, Take.eq (A := (sep (cel nb [.int .i64 b.t, .slice y70.1 ((b.data ++ pk.data)).size y70.2] 101) (sep (OwnB 5 y70 (b.data ++ pk.data)) (cel b5 [.int .i64 pk.id, .bool pk.more, .int .i64 pk.off, .int .i64 pk.ttl, .int .i64 pk.proto, .int .u8 pk.s0, .int .u8 pk.s1, .int .u8 pk.s2, .int .u8 pk.s3, .int .u8 pk.d0, .int .u8 pk.d1, .int .u8 pk.d2, .int .u8 pk.d3, .string pk.data] 32))))⟩) (opv_fieldAddr rfl) rfl ?_
  refine R_only 6 rfl rfl (by kernel_rfl) (opx_store rfl rfl rfl (by simp [Value.oneCell'])) (fun _ _ => ⟨_, Take.eq (A := (sep (cel nb [.int .i64 b.t, .slice y70.1 ((b.data ++ pk.data)).size y70.2] 101) (OwnB 5 y70 (b.data ++ pk.data))))⟩) (.inl (by kernel_rfl)) (fun _ _ => ?_)
  first
    | refine R_pure 7 rfl (by kernel_rfl) (by kernel_rfl) (by kernel_rfl) (by kernel_rfl) (.inl (by kernel_rfl)) (opv_fieldAddr0 rfl) rfl ?_
    | refine R_pure 7 rfl (by kernel_rfl) (by kernel_rfl) (by kernel_rfl) (by kernel_rfl) (.inl (by kernel_rfl)) (opv_fieldAddr rfl) rfl ?_
  refine R_only 8 rfl rfl (by kernel_rfl) (opx_store rfl rfl rfl (by simp [Value.oneCell'])) (fun _ _ => ⟨_, Take.eq (A := (sep (cel nb [.int .i64 b.t, .slice y70.1 ((b.data ++ pk.data)).size y70.2] 101) (OwnB 5 y70 (b.data ++ pk.data))))⟩) (.inl (by kernel_rfl)) (fun _ _ => ?_)
  refine R_done (by kernel_rfl) ?_
  refine K_then ?_
  refine J_seq ?_
  refine J_region ?_
  refine L_v (opv_loadS rfl) rfl ?_
  refine L_x rfl (opx_store rfl rfl rfl (by simp [Value.oneCell'])) (fun _ _ => ?_)
  refine L_v (opv_assign rfl) rfl ?_
  refine L_v (opv_assign rfl) rfl ?_
  refine L_nil ?_
  refine K_then ?_
  refine J_ret ?_
  rw [← keysOf_wob]
  exact K_ret3c rfl rfl rfl rfl rfl () trivial rfl (Ent.trans (Ent.take (Q := (sep (cel tp [.map (some r), .slice z.1 (keysOf (wob (T.pass wt now).q (kyOf pk))).length z.2, .int .i64 m, .int .i64 wt, .int .i64 (T.pass wt now).now, .int .i64 (T.pass wt now).dr] 99) (sep (mapp r ksKy (mdel f (encKy (kyOf pk)))) (sep (Own 70 10 (.slice z.1 (keysOf (wob (T.pass wt now).q (kyOf pk))).length z.2) (keysOf (wob (T.pass wt now).q (kyOf pk))).length (flatK (keysOf (wob (T.pass wt now).q (kyOf pk))))) (sep ((sep (begs l1) (begs l2))) (F))))))) (Ent.trans (Ent.of (by rw [← begs_app])) (TabP.fold (T := (⟨(wob (T.pass wt now).q (kyOf pk)), (T.pass wt now).now, (T.pass wt now).dr⟩ : TS)) r z (l1 ++ l2) (mdel f (encKy (kyOf pk))) (by show (l1 ++ l2).map (·.1) = wob (T.pass wt now).q (kyOf pk); rw [← hx1]; unfold wob; rw [List.filter_map, ← mid_filt (n := nb) hbk hl1 hl2]; rfl) (by rw [← mid_filt (n := nb) hbk hl1 hl2]; exact hx2.del _))))

end Go.Proofs.Ytjpbpfihacfndaa
