/- Contracts of Put of the document's table, each proved by a walk over its code; they are used by the texts that import this one. -/
import Derived.Test.YtjpbpfihacfndaaRn
import Derived.Test.YtjpbpfihacfndaaH
namespace Go.Proofs.Ytjpbpfihacfndaa
open Go.SLA
set_option maxRecDepth 100000
set_option linter.unusedVariables false
set_option linter.unusedSimpArgs false
attribute [local irreducible] J L K QL Rg FSpec OpV OpX Rd Back

theorem snocB_len (L : List Bgr) (z : Bgr) : L.length + 1 = (L ++ [z]).length := by simp
theorem snocB (L : List Bgr) (z : Bgr) : L.flatMap encB ++ encB z = (L ++ [z]).flatMap encB := by simp
theorem flat9 {B : List Bgr} {i : Nat} {y : Bgr} {d : ByteArray} (pre post : List Value) (hy : B[i]? = some y) : pre ++ (B.set i ⟨y.p, y.t, d⟩).flatMap encB ++ post = (pre ++ B.flatMap encB ++ post).take (pre.length + i * 10 + 9) ++ [.string d] ++ (pre ++ B.flatMap encB ++ post).drop (pre.length + i * 10 + 9 + [Value.string d].length) := by
  have hi := klt hy
  have hyi : B[i] = y := by rw [List.getElem?_eq_getElem hi] at hy; simpa using hy
  have h1 : B = B.take i ++ ([y] ++ B.drop (i + 1)) := by rw [← hyi, List.singleton_append, ← List.drop_eq_getElem_cons hi, List.take_append_drop]
  have h2 : B.set i ⟨y.p, y.t, d⟩ = B.take i ++ ([⟨y.p, y.t, d⟩] ++ B.drop (i + 1)) := by rw [List.set_eq_take_append_cons_drop, if_pos hi]; rfl
  have l1 : ((B.take i).flatMap encB).length = i * 10 := by rw [flat_len encB_len, List.length_take]; congr 1; omega
  have e1 : B.flatMap encB = (B.take i).flatMap encB ++ ((encR y.p ++ [.int .i64 y.t]) ++ [.string y.data] ++ (B.drop (i + 1)).flatMap encB) := by
    refine (congrArg (List.flatMap encB) h1).trans ?_
    rw [List.flatMap_append, List.flatMap_append]
    rfl
  have e2 : (B.set i ⟨y.p, y.t, d⟩).flatMap encB = (B.take i).flatMap encB ++ ((encR y.p ++ [.int .i64 y.t]) ++ [.string d] ++ (B.drop (i + 1)).flatMap encB) := by
    rw [h2, List.flatMap_append, List.flatMap_append]
    rfl
  have l9 : (encR y.p ++ [Value.int .i64 y.t]).length = 9 := rfl
  generalize encR y.p ++ [Value.int .i64 y.t] = p9 at e1 e2 l9
  have a1 : (pre ++ B.flatMap encB ++ post).take (pre.length + i * 10 + 9) = pre ++ (B.take i).flatMap encB ++ p9 := by
    rw [e1, show pre ++ ((B.take i).flatMap encB ++ (p9 ++ [.string y.data] ++ (B.drop (i + 1)).flatMap encB)) ++ post = (pre ++ (B.take i).flatMap encB ++ p9) ++ ([.string y.data] ++ ((B.drop (i + 1)).flatMap encB ++ post)) by simp]
    exact List.take_left' (by rw [List.length_append, List.length_append, l1, l9])
  have a2 : (pre ++ B.flatMap encB ++ post).drop (pre.length + i * 10 + 9 + [Value.string d].length) = (B.drop (i + 1)).flatMap encB ++ post := by
    rw [e1, show pre ++ ((B.take i).flatMap encB ++ (p9 ++ [.string y.data] ++ (B.drop (i + 1)).flatMap encB)) ++ post = (pre ++ (B.take i).flatMap encB ++ p9 ++ [.string y.data]) ++ ((B.drop (i + 1)).flatMap encB ++ post) by simp]
    exact List.drop_left' (by simp only [List.length_append, l1, l9]; rfl)
  rw [a1, a2, e2]
  simp
/-- What a first part does behind the one of its key that is given up. -/
def begB (m now : Int) (B : List Bgr) (x : Pk) : Int × List Bgr := if x.data.size = 0 ∨ x.data.size % 8 ≠ 0 then (15, B) else if 8200 < x.data.size then (11, B) else if m ≤ (B.length : Int) then (22, B) else (0, B ++ [⟨x, now, x.data⟩])
theorem RPass_z (rp : Nat) (A : Option Addr) (c : Nat) (B : List Bgr) (m wt now0 dr : Int) (hn : B.length ≤ 1000000) (now : Int) (h : timC now0 now = 0) (h0 : 0 ≤ now0) (hwt : 0 ≤ wt ∧ wt ≤ 1125899906842624) (hb : ∀ b ∈ B, 0 ≤ b.t ∧ b.t ≤ 1125899906842624) (hdr : 0 ≤ dr ∧ dr ≤ 1000000) (B1 : List Bgr) (dr1 : Int) (h1 : B.filter (keepB wt now) = B1) (h2 : dr + B.length - B1.length = dr1) : FSpec Try.prog 31 #[.pointer (some (ad rp 0)), .int .i64 now] ((sep (Own 73 10 (.slice A B.length c) B.length (B.flatMap encB)) (cel rp [.slice A B.length c, .int .i64 m, .int .i64 wt, .int .i64 now0, .int .i64 dr] 67))) (fun _ : Option Addr × Nat => True) (fun _ => .int .i64 0) (fun r => (sep (Own 73 10 (.slice r.1 B1.length r.2) B1.length (B1.flatMap encB)) (cel rp [.slice r.1 B1.length r.2, .int .i64 m, .int .i64 wt, .int .i64 now, .int .i64 dr1] 67))) := by
  have := RPass_ok rp A c B m wt now0 dr hn now h h0 hwt hb hdr
  rw [h1, h2] at this
  exact this

theorem RPut_bad (rp : Nat) (A : Option Addr) (c : Nat) (B : List Bgr) (m wt now0 dr : Int) (hn : B.length ≤ 1000000) (now : Int) (x : Pk) (h : timC now0 now ≠ 0) : FSpec Try.prog 33 #[.pointer (some (ad rp 0)), .int .i64 now, .agg [.int .i64 x.id, .bool x.more, .int .i64 x.off, .int .i64 x.ttl, .int .i64 x.proto, .string (bytesL [x.s0, x.s1, x.s2, x.s3]), .string (bytesL [x.d0, x.d1, x.d2, x.d3]), .string x.data].toArray] ((sep (Own 73 10 (.slice A B.length c) B.length (B.flatMap encB)) (cel rp [.slice A B.length c, .int .i64 m, .int .i64 wt, .int .i64 now0, .int .i64 dr] 67))) (fun _ : Unit => True) (fun _ => .tuple #[.agg [.int .i64 0, .bool false, .int .i64 0, .int .i64 0, .int .i64 0, .string ⟨#[]⟩, .string ⟨#[]⟩, .string ⟨#[]⟩].toArray, .bool false, .int .i64 (timC now0 now)]) (fun _ => (sep (Own 73 10 (.slice A B.length c) B.length (B.flatMap encB)) (cel rp [.slice A B.length c, .int .i64 m, .int .i64 wt, .int .i64 now0, .int .i64 dr] 67))) := by
  refine FSpec.enter' Try.func33 rfl Try.ntmps33 rfl fun σ F => ?_
  refine J_seq ?_
  refine J_region ?_
  refine L_x rfl (opx_box (l := [.int .i64 x.id, .bool x.more, .int .i64 x.off, .int .i64 x.ttl, .int .i64 x.proto, .string (bytesL [x.s0, x.s1, x.s2, x.s3]), .string (bytesL [x.d0, x.d1, x.d2, x.d3]), .string x.data]) rfl rfl) (fun b5 _ => ?_)
  refine L_x rfl (opx_alloc rfl) (fun b6 _ => ?_)
  refine L_v (opv_assign rfl) rfl ?_
  refine L_v (opv_assign rfl) rfl ?_
  refine L_nil ?_
  refine K_then ?_
  refine J_seq ?_
  refine J_region ?_
  refine L_v (opv_move rfl) rfl ?_
  refine L_v (opv_move rfl) rfl ?_
  refine L_x rfl (opx_call0 (RPass_bad rp A c B m wt now0 dr hn now h) rfl rfl rfl) (fun _ _ => ?_)
  refine L_v (opv_assign rfl) rfl ?_
  refine L_nil ?_
  refine K_then ?_
  refine J_seq ?_
  refine J_seq ?_
  refine J_region ?_
  refine L_v (opv_move rfl) rfl ?_
  refine L_v ((opv_neq rfl rfl).bool_t h) rfl ?_
  refine L_nil ?_
  refine K_then ?_
  refine J_cond_true rfl ?_
  refine J_seq ?_
  refine J_region ?_
  refine L_v (opv_build rfl) rfl ?_
  refine L_v (opv_move rfl) rfl ?_
  refine L_x rfl (opx_store rfl rfl rfl (by simp [Value.oneCell'])) (fun _ _ => ?_)
  refine L_v (opv_assign rfl) rfl ?_
  refine L_v (opv_assign rfl) rfl ?_
  refine L_nil ?_
  refine K_then ?_
  refine J_ret ?_
  refine K_then_ret ?_
  exact K_ret3c rfl rfl rfl rfl rfl () trivial (rfl) Ent.take

theorem RPut_whole (rp : Nat) (A : Option Addr) (c : Nat) (B : List Bgr) (m wt now0 dr : Int) (hn : B.length ≤ 1000000) (now : Int) (x : Pk) (hx : okA x) (h : timC now0 now = 0) (h0 : 0 ≤ now0) (hwt : 0 ≤ wt ∧ wt ≤ 1125899906842624) (hb : ∀ b ∈ B, 0 ≤ b.t ∧ b.t ≤ 1125899906842624) (hdr : 0 ≤ dr ∧ dr ≤ 1000000) (B1 : List Bgr) (dr1 : Int) (h1 : B.filter (keepB wt now) = B1) (h2 : dr + B.length - B1.length = dr1) (hB : ∀ b ∈ B1, okA b.p) (hn1 : B1.length ≤ 1000000) (hd1 : 0 ≤ dr1 ∧ dr1 ≤ 1000000) (hxd : x.data.size ≤ 1000000) (ho : x.off = 0) (hm : x.more = false) : FSpec Try.prog 33 #[.pointer (some (ad rp 0)), .int .i64 now, .agg [.int .i64 x.id, .bool x.more, .int .i64 x.off, .int .i64 x.ttl, .int .i64 x.proto, .string (bytesL [x.s0, x.s1, x.s2, x.s3]), .string (bytesL [x.d0, x.d1, x.d2, x.d3]), .string x.data].toArray] ((sep (Own 73 10 (.slice A B.length c) B.length (B.flatMap encB)) (cel rp [.slice A B.length c, .int .i64 m, .int .i64 wt, .int .i64 now0, .int .i64 dr] 67))) (fun r : Option Addr × Nat => True) (fun r => .tuple #[.agg [.int .i64 x.id, .bool x.more, .int .i64 x.off, .int .i64 x.ttl, .int .i64 x.proto, .string (bytesL [x.s0, x.s1, x.s2, x.s3]), .string (bytesL [x.d0, x.d1, x.d2, x.d3]), .string x.data].toArray, .bool true, .int .i64 0]) (fun r => (sep (Own 73 10 (.slice r.1 B1.length r.2) B1.length (B1.flatMap encB)) (cel rp [.slice r.1 B1.length r.2, .int .i64 m, .int .i64 wt, .int .i64 now, .int .i64 dr1] 67))) := by
  refine FSpec.enter' Try.func33 rfl Try.ntmps33 rfl fun σ F => ?_
  refine J_seq ?_
  refine J_region ?_
  refine L_x rfl (opx_box (l := [.int .i64 x.id, .bool x.more, .int .i64 x.off, .int .i64 x.ttl, .int .i64 x.proto, .string (bytesL [x.s0, x.s1, x.s2, x.s3]), .string (bytesL [x.d0, x.d1, x.d2, x.d3]), .string x.data]) rfl rfl) (fun b5 _ => ?_)
  refine L_x rfl (opx_alloc rfl) (fun b6 _ => ?_)
  refine L_v (opv_assign rfl) rfl ?_
  refine L_v (opv_assign rfl) rfl ?_
  refine L_nil ?_
  refine K_then ?_
  refine J_seq ?_
  refine J_region ?_
  refine L_v (opv_move rfl) rfl ?_
  refine L_v (opv_move rfl) rfl ?_
  refine L_x rfl (opx_call0 (RPass_z rp A c B m wt now0 dr hn now h h0 hwt hb hdr B1 dr1 h1 h2) rfl rfl rfl) (fun r _ => ?_)
  refine L_v (opv_assign rfl) rfl ?_
  refine L_nil ?_
  refine K_then ?_
  refine J_seq ?_
  refine J_seq ?_
  refine J_region ?_
  refine L_v (opv_move rfl) rfl ?_
  refine L_v ((opv_neq rfl rfl).bool_f (by decide)) rfl ?_
  refine L_nil ?_
  refine K_then ?_
  refine J_cond_false rfl ?_
  refine J_skip ?_
  refine K_then ?_
  refine J_seq ?_
  refine J_seq ?_
  refine J_region ?_
  first
    | refine L_v (opv_fieldAddr0 rfl) rfl ?_
    | refine L_v (opv_fieldAddr rfl) rfl ?_
  refine L_v ((opv_load rfl (Rd.look rfl)).as (v' := .bool false) (by rw [hm])) rfl ?_
  refine L_v (opv_not rfl) rfl ?_
  refine L_v (opv_move rfl) rfl ?_
  refine L_gon rfl rfl rfl ?_
  first
    | refine L_v (opv_fieldAddr0 rfl) rfl ?_
    | refine L_v (opv_fieldAddr rfl) rfl ?_
  refine L_gon rfl rfl rfl ?_
  refine L_v (opv_load rfl (Rd.look rfl)) rfl ?_
  refine L_gon rfl rfl rfl ?_
  refine L_v ((opv_eql rfl rfl).bool_t ho) rfl ?_
  first
    | refine L_v (opv_pick_tt rfl rfl) rfl ?_
    | refine L_v (opv_pick_ff rfl rfl) rfl ?_
    | refine L_v (opv_pick rfl rfl rfl) rfl ?_
  refine L_nil ?_
  refine K_then ?_
  refine J_cond_true rfl ?_
  refine J_seq ?_
  refine J_region ?_
  refine L_v (opv_loadS rfl) rfl ?_
  refine L_x rfl (opx_store rfl rfl rfl (by simp [Value.oneCell'])) (fun _ _ => ?_)
  refine L_v (opv_assign rfl) rfl ?_
  refine L_v (opv_assign rfl) rfl ?_
  refine L_nil ?_
  refine K_then ?_
  refine J_ret ?_
  refine K_then_ret ?_
  exact K_ret3c rfl rfl rfl rfl rfl r trivial rfl (Ent.take (Q := (sep ((sep (Own 73 10 (.slice r.1 B1.length r.2) B1.length (B1.flatMap encB)) (cel rp [.slice r.1 B1.length r.2, .int .i64 m, .int .i64 wt, .int .i64 now, .int .i64 dr1] 67))) (F))))

set_option maxHeartbeats 800000 in
theorem RPut_beg1 (rp : Nat) (A : Option Addr) (c : Nat) (B : List Bgr) (m wt now0 dr : Int) (hn : B.length ≤ 1000000) (now : Int) (x : Pk) (hx : okA x) (h : timC now0 now = 0) (h0 : 0 ≤ now0) (hwt : 0 ≤ wt ∧ wt ≤ 1125899906842624) (hb : ∀ b ∈ B, 0 ≤ b.t ∧ b.t ≤ 1125899906842624) (hdr : 0 ≤ dr ∧ dr ≤ 1000000) (B1 : List Bgr) (dr1 : Int) (h1 : B.filter (keepB wt now) = B1) (h2 : dr + B.length - B1.length = dr1) (hB : ∀ b ∈ B1, okA b.p) (hn1 : B1.length ≤ 1000000) (hd1 : 0 ≤ dr1 ∧ dr1 ≤ 1000000) (hxd : x.data.size ≤ 1000000) (ho : x.off = 0) (hm : x.more = true) (hf : fB B1 x < B1.length) : FSpec Try.prog 33 #[.pointer (some (ad rp 0)), .int .i64 now, .agg [.int .i64 x.id, .bool x.more, .int .i64 x.off, .int .i64 x.ttl, .int .i64 x.proto, .string (bytesL [x.s0, x.s1, x.s2, x.s3]), .string (bytesL [x.d0, x.d1, x.d2, x.d3]), .string x.data].toArray] ((sep (Own 73 10 (.slice A B.length c) B.length (B.flatMap encB)) (cel rp [.slice A B.length c, .int .i64 m, .int .i64 wt, .int .i64 now0, .int .i64 dr] 67))) (fun r : Option Addr × Nat => True) (fun r => .tuple #[.agg [.int .i64 0, .bool false, .int .i64 0, .int .i64 0, .int .i64 0, .string ⟨#[]⟩, .string ⟨#[]⟩, .string ⟨#[]⟩].toArray, .bool false, .int .i64 (begB m now (B1.take (fB B1 x) ++ B1.drop ((fB B1 x) + 1)) x).1]) (fun r => (sep (Own 73 10 (.slice r.1 (begB m now (B1.take (fB B1 x) ++ B1.drop ((fB B1 x) + 1)) x).2.length r.2) (begB m now (B1.take (fB B1 x) ++ B1.drop ((fB B1 x) + 1)) x).2.length ((begB m now (B1.take (fB B1 x) ++ B1.drop ((fB B1 x) + 1)) x).2.flatMap encB)) (cel rp [.slice r.1 (begB m now (B1.take (fB B1 x) ++ B1.drop ((fB B1 x) + 1)) x).2.length r.2, .int .i64 m, .int .i64 wt, .int .i64 now, .int .i64 (dr1 + 1)] 67))) := by
  have hql : (B1.take (fB B1 x) ++ B1.drop ((fB B1 x) + 1)).length ≤ B1.length := by rw [List.length_append, List.length_take, List.length_drop]; omega
  refine FSpec.enter' Try.func33 rfl Try.ntmps33 rfl fun σ F => ?_
  refine J_seq ?_
  refine J_region ?_
  refine L_x rfl (opx_box (l := [.int .i64 x.id, .bool x.more, .int .i64 x.off, .int .i64 x.ttl, .int .i64 x.proto, .string (bytesL [x.s0, x.s1, x.s2, x.s3]), .string (bytesL [x.d0, x.d1, x.d2, x.d3]), .string x.data]) rfl rfl) (fun b5 _ => ?_)
  refine L_x rfl (opx_alloc rfl) (fun b6 _ => ?_)
  refine L_v (opv_assign rfl) rfl ?_
  refine L_v (opv_assign rfl) rfl ?_
  refine L_nil ?_
  refine K_then ?_
  refine J_seq ?_
  refine J_region ?_
  refine L_v (opv_move rfl) rfl ?_
  refine L_v (opv_move rfl) rfl ?_
  refine L_x rfl (opx_call0 (RPass_z rp A c B m wt now0 dr hn now h h0 hwt hb hdr B1 dr1 h1 h2) rfl rfl rfl) (fun r _ => ?_)
  refine L_v (opv_assign rfl) rfl ?_
  refine L_nil ?_
  refine K_then ?_
  refine J_seq ?_
  refine J_seq ?_
  refine J_region ?_
  refine L_v (opv_move rfl) rfl ?_
  refine L_v ((opv_neq rfl rfl).bool_f (by decide)) rfl ?_
  refine L_nil ?_
  refine K_then ?_
  refine J_cond_false rfl ?_
  refine J_skip ?_
  refine K_then ?_
  refine J_seq ?_
  refine J_seq ?_
  refine J_region ?_
  first
    | refine L_v (opv_fieldAddr0 rfl) rfl ?_
    | refine L_v (opv_fieldAddr rfl) rfl ?_
  refine L_v ((opv_load rfl (Rd.look rfl)).as (v' := .bool true) (by rw [hm])) rfl ?_
  refine L_v (opv_not rfl) rfl ?_
  refine L_v (opv_move rfl) rfl ?_
  refine L_gskip rfl rfl rfl ?_ (fun _ h => by cases h; rfl)
  refine L_gskip rfl rfl rfl ?_ (fun _ h => by cases h; rfl)
  refine L_gskip rfl rfl rfl ?_ (fun _ h => by cases h; rfl)
  first
    | refine L_v (opv_pick_tt rfl rfl) rfl ?_
    | refine L_v (opv_pick_ff rfl rfl) rfl ?_
    | refine L_v (opv_pick rfl rfl rfl) rfl ?_
  refine L_nil ?_
  refine K_then ?_
  refine J_cond_false rfl ?_
  refine J_skip ?_
  refine K_then ?_
  refine J_seq ?_
  refine J_region ?_
  refine L_v (opv_move rfl) rfl ?_
  refine L_v (opv_loadS rfl) rfl ?_
  refine L_x rfl (opx_call0 (Rfind_spec rp r.1 r.2 B1 m wt now dr1 hn1 x hx hB) rfl rfl rfl) (fun _ _ => ?_)
  rw [if_pos hf]
  refine L_v (opv_assign rfl) rfl ?_
  refine L_nil ?_
  refine K_then ?_
  refine J_seq ?_
  refine J_seq ?_
  refine J_region ?_
  first
    | refine L_v (opv_fieldAddr0 rfl) rfl ?_
    | refine L_v (opv_fieldAddr rfl) rfl ?_
  refine L_v (opv_load rfl (Rd.look rfl)) rfl ?_
  refine L_v ((opv_eql rfl rfl).bool_t ho) rfl ?_
  refine L_nil ?_
  refine K_then ?_
  refine J_cond_true rfl ?_
  refine J_seq ?_
  refine J_seq ?_
  refine J_region ?_
  refine L_v (opv_move rfl) rfl ?_
  refine L_v ((opv_geq rfl rfl).bool_t (by omega)) rfl ?_
  refine L_nil ?_
  refine K_then ?_
  refine J_cond_true rfl ?_
  refine J_seq ?_
  refine J_region ?_
  refine L_v (opv_move rfl) rfl ?_
  refine L_v (opv_move rfl) rfl ?_
  refine L_x rfl (opx_call0 (Rdrop_spec rp r.1 r.2 B1 m wt now dr1 hn1 (fB B1 x) hf) rfl rfl rfl) (fun r2 _ => ?_)
  refine L_nil ?_
  refine K_then ?_
  refine J_region ?_
  refine L_v (opv_move rfl) rfl ?_
  refine L_v (opv_move rfl) rfl ?_
  refine L_v (opv_nilCheck rfl) rfl ?_
  first
    | refine L_v (opv_fieldAddr0 rfl) rfl ?_
    | refine L_v (opv_fieldAddr rfl) rfl ?_
  refine L_v (opv_load rfl (Rd.look rfl)) rfl ?_
  first
    | refine L_v (opv_add64 rfl rfl (by omega)) rfl ?_
    | refine L_v (opv_addS rfl rfl (by omega)) rfl ?_
    | refine L_v (opv_add rfl rfl) rfl ?_
  refine L_v (opv_nilCheck rfl) rfl ?_
  first
    | refine L_v (opv_fieldAddr0 rfl) rfl ?_
    | refine L_v (opv_fieldAddr rfl) rfl ?_
  refine L_x rfl (opx_store rfl rfl rfl (by simp [Value.oneCell'])) (fun _ _ => ?_)
  refine L_nil ?_
  refine K_then ?_
  refine J_seq ?_
  refine J_seq ?_
  refine J_region ?_
  refine L_v (opv_loadS rfl) rfl ?_
  refine L_x rfl (opx_call0 (wrong_spec x) rfl rfl rfl) (fun _ _ => ?_)
  refine L_emp ?_
  refine L_nil ?_
  refine K_then ?_
  refine J_cond rfl (fun h1 => ?_) (fun h1 => ?_)
  · refine J_seq ?_
    refine J_region ?_
    refine L_v (opv_build rfl) rfl ?_
    refine L_x rfl (opx_store rfl rfl rfl (by simp [Value.oneCell'])) (fun _ _ => ?_)
    refine L_v (opv_assign rfl) rfl ?_
    refine L_v (opv_assign rfl) rfl ?_
    refine L_nil ?_
    refine K_then ?_
    refine J_ret ?_
    refine K_then_ret ?_
    refine K_then_ret ?_
    have e : begB m now (B1.take (fB B1 x) ++ B1.drop ((fB B1 x) + 1)) x = (15, (B1.take (fB B1 x) ++ B1.drop ((fB B1 x) + 1))) := if_pos h1.2
    rw [e]
    exact K_ret3c rfl rfl rfl rfl rfl r2 trivial rfl (Ent.take (Q := (sep ((sep (Own 73 10 (.slice r2.1 (B1.take (fB B1 x) ++ B1.drop ((fB B1 x) + 1)).length r2.2) (B1.take (fB B1 x) ++ B1.drop ((fB B1 x) + 1)).length ((B1.take (fB B1 x) ++ B1.drop ((fB B1 x) + 1)).flatMap encB)) (cel rp [.slice r2.1 (B1.take (fB B1 x) ++ B1.drop ((fB B1 x) + 1)).length r2.2, .int .i64 m, .int .i64 wt, .int .i64 now, .int .i64 (dr1 + 1)] 67))) (F))))
  · refine J_skip ?_
    refine K_then ?_
    refine J_seq ?_
    refine J_seq ?_
    refine J_region ?_
    first
      | refine L_v (opv_fieldAddr0 rfl) rfl ?_
      | refine L_v (opv_fieldAddr rfl) rfl ?_
    refine L_v (opv_load rfl (Rd.look rfl)) rfl ?_
    first
      | refine L_v (opv_lenL rfl) rfl ?_
      | refine L_v (opv_lenS rfl) rfl ?_
    refine L_v (opv_gtr rfl rfl) rfl ?_
    refine L_nil ?_
    refine K_then ?_
    refine J_cond rfl (fun h2 => ?_) (fun h2 => ?_)
    · refine J_seq ?_
      refine J_region ?_
      refine L_v (opv_build rfl) rfl ?_
      refine L_x rfl (opx_store rfl rfl rfl (by simp [Value.oneCell'])) (fun _ _ => ?_)
      refine L_v (opv_assign rfl) rfl ?_
      refine L_v (opv_assign rfl) rfl ?_
      refine L_nil ?_
      refine K_then ?_
      refine J_ret ?_
      refine K_then_ret ?_
      refine K_then_ret ?_
      have e : begB m now (B1.take (fB B1 x) ++ B1.drop ((fB B1 x) + 1)) x = (11, (B1.take (fB B1 x) ++ B1.drop ((fB B1 x) + 1))) := by unfold begB; rw [if_neg (fun g => h1 ⟨hm, g⟩), if_pos (by omega)]
      rw [e]
      exact K_ret3c rfl rfl rfl rfl rfl r2 trivial rfl (Ent.take (Q := (sep ((sep (Own 73 10 (.slice r2.1 (B1.take (fB B1 x) ++ B1.drop ((fB B1 x) + 1)).length r2.2) (B1.take (fB B1 x) ++ B1.drop ((fB B1 x) + 1)).length ((B1.take (fB B1 x) ++ B1.drop ((fB B1 x) + 1)).flatMap encB)) (cel rp [.slice r2.1 (B1.take (fB B1 x) ++ B1.drop ((fB B1 x) + 1)).length r2.2, .int .i64 m, .int .i64 wt, .int .i64 now, .int .i64 (dr1 + 1)] 67))) (F))))
    · refine J_skip ?_
      refine K_then ?_
      refine J_seq ?_
      refine J_seq ?_
      refine J_quiet Try.mixed (by kernel_rfl) ?_
      refine Q_v (opv_move rfl) rfl ?_
      refine Q_v (opv_nilCheck rfl) rfl ?_
      first
        | refine Q_v (opv_fieldAddr0 rfl) rfl ?_
        | refine Q_v (opv_fieldAddr rfl) rfl ?_
      refine Q_v (opv_load rfl (Rd.look rfl)) rfl ?_
      first
        | refine Q_v (opv_lenL rfl) rfl ?_
        | refine Q_v (opv_lenS rfl) rfl ?_
      refine Q_v (opv_move rfl) rfl ?_
      refine Q_v (opv_nilCheck rfl) rfl ?_
      first
        | refine Q_v (opv_fieldAddr0 rfl) rfl ?_
        | refine Q_v (opv_fieldAddr rfl) rfl ?_
      refine Q_v (opv_load rfl (Rd.look rfl)) rfl ?_
      refine Q_v (opv_geq rfl rfl) rfl ?_
      refine QL_nil ?_
      refine K_then ?_
      refine J_cond rfl (fun h3 => ?_) (fun h3 => ?_)
      · refine J_seq ?_
        refine J_region ?_
        refine L_v (opv_build rfl) rfl ?_
        refine L_x rfl (opx_store rfl rfl rfl (by simp [Value.oneCell'])) (fun _ _ => ?_)
        refine L_v (opv_assign rfl) rfl ?_
        refine L_v (opv_assign rfl) rfl ?_
        refine L_nil ?_
        refine K_then ?_
        refine J_ret ?_
        refine K_then_ret ?_
        refine K_then_ret ?_
        have e : begB m now (B1.take (fB B1 x) ++ B1.drop ((fB B1 x) + 1)) x = (22, (B1.take (fB B1 x) ++ B1.drop ((fB B1 x) + 1))) := by unfold begB; rw [if_neg (fun g => h1 ⟨hm, g⟩), if_neg (by omega), if_pos (by omega)]
        rw [e]
        exact K_ret3c rfl rfl rfl rfl rfl r2 trivial rfl (Ent.take (Q := (sep ((sep (Own 73 10 (.slice r2.1 (B1.take (fB B1 x) ++ B1.drop ((fB B1 x) + 1)).length r2.2) (B1.take (fB B1 x) ++ B1.drop ((fB B1 x) + 1)).length ((B1.take (fB B1 x) ++ B1.drop ((fB B1 x) + 1)).flatMap encB)) (cel rp [.slice r2.1 (B1.take (fB B1 x) ++ B1.drop ((fB B1 x) + 1)).length r2.2, .int .i64 m, .int .i64 wt, .int .i64 now, .int .i64 (dr1 + 1)] 67))) (F))))
      · refine J_skip ?_
        refine K_then ?_
        refine J_seq ?_
        refine J_steps (cel b5 [.int .i64 x.id, .bool x.more, .int .i64 x.off, .int .i64 x.ttl, .int .i64 x.proto, .string (bytesL [x.s0, x.s1, x.s2, x.s3]), .string (bytesL [x.d0, x.d1, x.d2, x.d3]), .string x.data] 36) ((sep (cel b5 [.int .i64 x.id, .bool x.more, .int .i64 x.off, .int .i64 x.ttl, .int .i64 x.proto, .string (bytesL [x.s0, x.s1, x.s2, x.s3]), .string (bytesL [x.d0, x.d1, x.d2, x.d3]), .string x.data] 36) (cel rp [.slice r2.1 (B1.take (fB B1 x) ++ B1.drop ((fB B1 x) + 1)).length r2.2, .int .i64 m, .int .i64 wt, .int .i64 now, .int .i64 (dr1 + 1)] 67))) [14] Try.mixed ?_
        refine R_pure 0 rfl (by kernel_rfl) (by kernel_rfl) (by kernel_rfl) (by kernel_rfl) (.inr ⟨_, Take.eq (A := (sep (cel b5 [.int .i64 x.id, .bool x.more, .int .i64 x.off, .int .i64 x.ttl, .int .i64 x.proto, .string (bytesL [x.s0, x.s1, x.s2, x.s3]), .string (bytesL [x.d0, x.d1, x.d2, x.d3]), .string x.data] 36) (cel rp [.slice r2.1 (B1.take (fB B1 x) ++ B1.drop ((fB B1 x) + 1)).length r2.2, .int .i64 m, .int .i64 wt, .int .i64 now, .int .i64 (dr1 + 1)] 67)))⟩) (opv_move rfl) rfl ?_
        refine R_pure 1 rfl (by kernel_rfl) (by kernel_rfl) (by kernel_rfl) (by kernel_rfl) (.inr ⟨_, Take.eq (A := (sep (cel b5 [.int .i64 x.id, .bool x.more, .int .i64 x.off, .int .i64 x.ttl, .int .i64 x.proto, .string (bytesL [x.s0, x.s1, x.s2, x.s3]), .string (bytesL [x.d0, x.d1, x.d2, x.d3]), .string x.data] 36) (cel rp [.slice r2.1 (B1.take (fB B1 x) ++ B1.drop ((fB B1 x) + 1)).length r2.2, .int .i64 m, .int .i64 wt, .int .i64 now, .int .i64 (dr1 + 1)] 67)))⟩) (opv_move rfl) rfl ?_
        refine R_pure 2 rfl (by kernel_rfl) (by kernel_rfl) (by kernel_rfl) (by kernel_rfl) (.inr ⟨_, Take.eq (A := (sep (cel b5 [.int .i64 x.id, .bool x.more, .int .i64 x.off, .int .i64 x.ttl, .int .i64 x.proto, .string (bytesL [x.s0, x.s1, x.s2, x.s3]), .string (bytesL [x.d0, x.d1, x.d2, x.d3]), .string x.data] 36) (cel rp [.slice r2.1 (B1.take (fB B1 x) ++ B1.drop ((fB B1 x) + 1)).length r2.2, .int .i64 m, .int .i64 wt, .int .i64 now, .int .i64 (dr1 + 1)] 67)))⟩) (opv_nilCheck rfl) rfl ?_
        first
          | refine R_pure 3 rfl (by kernel_rfl) (by kernel_rfl) (by kernel_rfl) (by kernel_rfl) (.inr ⟨_, Take.eq (A := (sep (cel b5 [.int .i64 x.id, .bool x.more, .int .i64 x.off, .int .i64 x.ttl, .int .i64 x.proto, .string (bytesL [x.s0, x.s1, x.s2, x.s3]), .string (bytesL [x.d0, x.d1, x.d2, x.d3]), .string x.data] 36) (cel rp [.slice r2.1 (B1.take (fB B1 x) ++ B1.drop ((fB B1 x) + 1)).length r2.2, .int .i64 m, .int .i64 wt, .int .i64 now, .int .i64 (dr1 + 1)] 67)))⟩) (opv_fieldAddr0 rfl) rfl ?_
          | refine R_pure 3 rfl (by kernel_rfl) (by kernel_rfl) (by kernel_rfl) (by kernel_rfl) (.inr ⟨_, Take.eq (A := (sep (cel b5 [.int .i64 x.id, .bool x.more, .int .i64 x.off, .int .i64 x.ttl, .int .i64 x.proto, .string (bytesL [x.s0, x.s1, x.s2, x.s3]), .string (bytesL [x.d0, x.d1, x.d2, x.d3]), .string x.data] 36) (cel rp [.slice r2.1 (B1.take (fB B1 x) ++ B1.drop ((fB B1 x) + 1)).length r2.2, .int .i64 m, .int .i64 wt, .int .i64 now, .int .i64 (dr1 + 1)] 67)))⟩) (opv_fieldAddr rfl) rfl ?_
        refine R_take 4 rfl (by kernel_rfl) (by kernel_rfl) (by kernel_rfl) (by kernel_rfl) (by kernel_rfl) (opv_load rfl (Rd.look rfl)) rfl ?_
        refine R_take 5 rfl (by kernel_rfl) (by kernel_rfl) (by kernel_rfl) (by kernel_rfl) (by kernel_rfl) (opv_loadS rfl) rfl ?_
        refine R_pure 6 rfl (by kernel_rfl) (by kernel_rfl) (by kernel_rfl) (by kernel_rfl) (.inr ⟨_, Take.eq (A := (sep (cel b5 [.int .i64 x.id, .bool x.more, .int .i64 x.off, .int .i64 x.ttl, .int .i64 x.proto, .string (bytesL [x.s0, x.s1, x.s2, x.s3]), .string (bytesL [x.d0, x.d1, x.d2, x.d3]), .string x.data] 36) (cel rp [.slice r2.1 (B1.take (fB B1 x) ++ B1.drop ((fB B1 x) + 1)).length r2.2, .int .i64 m, .int .i64 wt, .int .i64 now, .int .i64 (dr1 + 1)] 67)))⟩) (opv_move rfl) rfl ?_
        first
          | refine R_pure 7 rfl (by kernel_rfl) (by kernel_rfl) (by kernel_rfl) (by kernel_rfl) (.inr ⟨_, Take.eq (A := (sep (cel b5 [.int .i64 x.id, .bool x.more, .int .i64 x.off, .int .i64 x.ttl, .int .i64 x.proto, .string (bytesL [x.s0, x.s1, x.s2, x.s3]), .string (bytesL [x.d0, x.d1, x.d2, x.d3]), .string x.data] 36) (cel rp [.slice r2.1 (B1.take (fB B1 x) ++ B1.drop ((fB B1 x) + 1)).length r2.2, .int .i64 m, .int .i64 wt, .int .i64 now, .int .i64 (dr1 + 1)] 67)))⟩) (opv_fieldAddr0 rfl) rfl ?_
          | refine R_pure 7 rfl (by kernel_rfl) (by kernel_rfl) (by kernel_rfl) (by kernel_rfl) (.inr ⟨_, Take.eq (A := (sep (cel b5 [.int .i64 x.id, .bool x.more, .int .i64 x.off, .int .i64 x.ttl, .int .i64 x.proto, .string (bytesL [x.s0, x.s1, x.s2, x.s3]), .string (bytesL [x.d0, x.d1, x.d2, x.d3]), .string x.data] 36) (cel rp [.slice r2.1 (B1.take (fB B1 x) ++ B1.drop ((fB B1 x) + 1)).length r2.2, .int .i64 m, .int .i64 wt, .int .i64 now, .int .i64 (dr1 + 1)] 67)))⟩) (opv_fieldAddr rfl) rfl ?_
        refine R_take 8 rfl (by kernel_rfl) (by kernel_rfl) (by kernel_rfl) (by kernel_rfl) (by kernel_rfl) (opv_load rfl (Rd.look rfl)) rfl ?_
        refine R_pure 9 rfl (by kernel_rfl) (by kernel_rfl) (by kernel_rfl) (by kernel_rfl) (.inr ⟨_, Take.eq (A := (sep (cel b5 [.int .i64 x.id, .bool x.more, .int .i64 x.off, .int .i64 x.ttl, .int .i64 x.proto, .string (bytesL [x.s0, x.s1, x.s2, x.s3]), .string (bytesL [x.d0, x.d1, x.d2, x.d3]), .string x.data] 36) (cel rp [.slice r2.1 (B1.take (fB B1 x) ++ B1.drop ((fB B1 x) + 1)).length r2.2, .int .i64 m, .int .i64 wt, .int .i64 now, .int .i64 (dr1 + 1)] 67)))⟩) (opv_build rfl) rfl ?_
        refine R_only 10 rfl rfl (by kernel_rfl) (opx_buildSlice1 (m := 10) rfl rfl (by omega) (by omega) rfl) (fun _ _ => ⟨_, Take.eq (A := cel b5 [.int .i64 x.id, .bool x.more, .int .i64 x.off, .int .i64 x.ttl, .int .i64 x.proto, .string (bytesL [x.s0, x.s1, x.s2, x.s3]), .string (bytesL [x.d0, x.d1, x.d2, x.d3]), .string x.data] 36)⟩) (.inr fun _ _ => ⟨_, Take.eq (A := (sep (cel b5 [.int .i64 x.id, .bool x.more, .int .i64 x.off, .int .i64 x.ttl, .int .i64 x.proto, .string (bytesL [x.s0, x.s1, x.s2, x.s3]), .string (bytesL [x.d0, x.d1, x.d2, x.d3]), .string x.data] 36) (cel rp [.slice r2.1 (B1.take (fB B1 x) ++ B1.drop ((fB B1 x) + 1)).length r2.2, .int .i64 m, .int .i64 wt, .int .i64 now, .int .i64 (dr1 + 1)] 67)))⟩) (fun b76 _ => ?_)
        refine R_only 11 rfl rfl (by kernel_rfl) (opx_append (m := 10) (B := 112) rfl rfl (Src.lit) rfl (by omega) rfl (encB_one ⟨x, now, x.data⟩) (by unfold maxLen; omega) (by omega) rfl) (fun _ _ => ⟨_, Take.eq (A := cel b5 [.int .i64 x.id, .bool x.more, .int .i64 x.off, .int .i64 x.ttl, .int .i64 x.proto, .string (bytesL [x.s0, x.s1, x.s2, x.s3]), .string (bytesL [x.d0, x.d1, x.d2, x.d3]), .string x.data] 36)⟩) (.inr fun _ _ => ⟨_, Take.eq (A := (sep (cel b5 [.int .i64 x.id, .bool x.more, .int .i64 x.off, .int .i64 x.ttl, .int .i64 x.proto, .string (bytesL [x.s0, x.s1, x.s2, x.s3]), .string (bytesL [x.d0, x.d1, x.d2, x.d3]), .string x.data] 36) (cel rp [.slice r2.1 (B1.take (fB B1 x) ++ B1.drop ((fB B1 x) + 1)).length r2.2, .int .i64 m, .int .i64 wt, .int .i64 now, .int .i64 (dr1 + 1)] 67)))⟩) (fun y77 _ => ?_)
        refine R_pure 12 rfl (by kernel_rfl) (by kernel_rfl) (by kernel_rfl) (by kernel_rfl) (.inr ⟨_, Take.eq (A := (sep (cel b5 [.int .i64 x.id, .bool x.more, .int .i64 x.off, .int .i64 x.ttl, .int .i64 x.proto, .string (bytesL [x.s0, x.s1, x.s2, x.s3]), .string (bytesL [x.d0, x.d1, x.d2, x.d3]), .string x.data] 36) (cel rp [.slice r2.1 (B1.take (fB B1 x) ++ B1.drop ((fB B1 x) + 1)).length r2.2, .int .i64 m, .int .i64 wt, .int .i64 now, .int .i64 (dr1 + 1)] 67)))⟩) (opv_nilCheck rfl) rfl ?_
        first
          | refine R_pure 13 rfl (by kernel_rfl) (by kernel_rfl) (by kernel_rfl) (by kernel_rfl) (.inr ⟨_, Take.eq (A := (sep (cel b5 [.int .i64 x.id, .bool x.more, .int .i64 x.off, .int .i64 x.ttl, .int .i64 x.proto, .string (bytesL [x.s0, x.s1, x.s2, x.s3]), .string (bytesL [x.d0, x.d1, x.d2, x.d3]), .string x.data] 36) (cel rp [.slice r2.1 (B1.take (fB B1 x) ++ B1.drop ((fB B1 x) + 1)).length r2.2, .int .i64 m, .int .i64 wt, .int .i64 now, .int .i64 (dr1 + 1)] 67)))⟩) (opv_fieldAddr0 rfl) rfl ?_
          | refine R_pure 13 rfl (by kernel_rfl) (by kernel_rfl) (by kernel_rfl) (by kernel_rfl) (.inr ⟨_, Take.eq (A := (sep (cel b5 [.int .i64 x.id, .bool x.more, .int .i64 x.off, .int .i64 x.ttl, .int .i64 x.proto, .string (bytesL [x.s0, x.s1, x.s2, x.s3]), .string (bytesL [x.d0, x.d1, x.d2, x.d3]), .string x.data] 36) (cel rp [.slice r2.1 (B1.take (fB B1 x) ++ B1.drop ((fB B1 x) + 1)).length r2.2, .int .i64 m, .int .i64 wt, .int .i64 now, .int .i64 (dr1 + 1)] 67)))⟩) (opv_fieldAddr rfl) rfl ?_
        refine R_only 14 rfl rfl (by kernel_rfl) (opx_store rfl rfl rfl (by simp [Value.oneCell'])) (fun _ _ => ⟨_, Take.eq (A := cel b5 [.int .i64 x.id, .bool x.more, .int .i64 x.off, .int .i64 x.ttl, .int .i64 x.proto, .string (bytesL [x.s0, x.s1, x.s2, x.s3]), .string (bytesL [x.d0, x.d1, x.d2, x.d3]), .string x.data] 36)⟩) (.inl (by kernel_rfl)) (fun _ _ => ?_)
        refine R_done (by kernel_rfl) ?_
        refine K_then ?_
        refine J_seq ?_
        refine J_region ?_
        refine L_v (opv_build rfl) rfl ?_
        refine L_x rfl (opx_store rfl rfl rfl (by simp [Value.oneCell'])) (fun _ _ => ?_)
        refine L_v (opv_assign rfl) rfl ?_
        refine L_v (opv_assign rfl) rfl ?_
        refine L_nil ?_
        refine K_then ?_
        refine J_ret ?_
        refine K_then_ret ?_
        have e : begB m now (B1.take (fB B1 x) ++ B1.drop ((fB B1 x) + 1)) x = (0, (B1.take (fB B1 x) ++ B1.drop ((fB B1 x) + 1)) ++ [⟨x, now, x.data⟩]) := by unfold begB; rw [if_neg (fun g => h1 ⟨hm, g⟩), if_neg (by omega), if_neg (by omega)]
        rw [snocB_len (B1.take (fB B1 x) ++ B1.drop ((fB B1 x) + 1)) ⟨x, now, x.data⟩, snocB (B1.take (fB B1 x) ++ B1.drop ((fB B1 x) + 1)) ⟨x, now, x.data⟩]
        rw [e]
        exact K_ret3c rfl rfl rfl rfl rfl y77 trivial rfl (Ent.take (Q := (sep ((sep (Own 73 10 (.slice y77.1 ((B1.take (fB B1 x) ++ B1.drop ((fB B1 x) + 1)) ++ [(⟨x, now, x.data⟩ : Bgr)]).length y77.2) ((B1.take (fB B1 x) ++ B1.drop ((fB B1 x) + 1)) ++ [(⟨x, now, x.data⟩ : Bgr)]).length (((B1.take (fB B1 x) ++ B1.drop ((fB B1 x) + 1)) ++ [(⟨x, now, x.data⟩ : Bgr)]).flatMap encB)) (cel rp [.slice y77.1 ((B1.take (fB B1 x) ++ B1.drop ((fB B1 x) + 1)) ++ [(⟨x, now, x.data⟩ : Bgr)]).length y77.2, .int .i64 m, .int .i64 wt, .int .i64 now, .int .i64 (dr1 + 1)] 67))) (F))))

set_option maxHeartbeats 800000 in
theorem RPut_beg0 (rp : Nat) (A : Option Addr) (c : Nat) (B : List Bgr) (m wt now0 dr : Int) (hn : B.length ≤ 1000000) (now : Int) (x : Pk) (hx : okA x) (h : timC now0 now = 0) (h0 : 0 ≤ now0) (hwt : 0 ≤ wt ∧ wt ≤ 1125899906842624) (hb : ∀ b ∈ B, 0 ≤ b.t ∧ b.t ≤ 1125899906842624) (hdr : 0 ≤ dr ∧ dr ≤ 1000000) (B1 : List Bgr) (dr1 : Int) (h1 : B.filter (keepB wt now) = B1) (h2 : dr + B.length - B1.length = dr1) (hB : ∀ b ∈ B1, okA b.p) (hn1 : B1.length ≤ 1000000) (hd1 : 0 ≤ dr1 ∧ dr1 ≤ 1000000) (hxd : x.data.size ≤ 1000000) (ho : x.off = 0) (hm : x.more = true) (hf : ¬ fB B1 x < B1.length) : FSpec Try.prog 33 #[.pointer (some (ad rp 0)), .int .i64 now, .agg [.int .i64 x.id, .bool x.more, .int .i64 x.off, .int .i64 x.ttl, .int .i64 x.proto, .string (bytesL [x.s0, x.s1, x.s2, x.s3]), .string (bytesL [x.d0, x.d1, x.d2, x.d3]), .string x.data].toArray] ((sep (Own 73 10 (.slice A B.length c) B.length (B.flatMap encB)) (cel rp [.slice A B.length c, .int .i64 m, .int .i64 wt, .int .i64 now0, .int .i64 dr] 67))) (fun r : Option Addr × Nat => True) (fun r => .tuple #[.agg [.int .i64 0, .bool false, .int .i64 0, .int .i64 0, .int .i64 0, .string ⟨#[]⟩, .string ⟨#[]⟩, .string ⟨#[]⟩].toArray, .bool false, .int .i64 (begB m now B1 x).1]) (fun r => (sep (Own 73 10 (.slice r.1 (begB m now B1 x).2.length r.2) (begB m now B1 x).2.length ((begB m now B1 x).2.flatMap encB)) (cel rp [.slice r.1 (begB m now B1 x).2.length r.2, .int .i64 m, .int .i64 wt, .int .i64 now, .int .i64 dr1] 67))) := by
  refine FSpec.enter' Try.func33 rfl Try.ntmps33 rfl fun σ F => ?_
  refine J_seq ?_
  refine J_region ?_
  refine L_x rfl (opx_box (l := [.int .i64 x.id, .bool x.more, .int .i64 x.off, .int .i64 x.ttl, .int .i64 x.proto, .string (bytesL [x.s0, x.s1, x.s2, x.s3]), .string (bytesL [x.d0, x.d1, x.d2, x.d3]), .string x.data]) rfl rfl) (fun b5 _ => ?_)
  refine L_x rfl (opx_alloc rfl) (fun b6 _ => ?_)
  refine L_v (opv_assign rfl) rfl ?_
  refine L_v (opv_assign rfl) rfl ?_
  refine L_nil ?_
  refine K_then ?_
  refine J_seq ?_
  refine J_region ?_
  refine L_v (opv_move rfl) rfl ?_
  refine L_v (opv_move rfl) rfl ?_
  refine L_x rfl (opx_call0 (RPass_z rp A c B m wt now0 dr hn now h h0 hwt hb hdr B1 dr1 h1 h2) rfl rfl rfl) (fun r _ => ?_)
  refine L_v (opv_assign rfl) rfl ?_
  refine L_nil ?_
  refine K_then ?_
  refine J_seq ?_
  refine J_seq ?_
  refine J_region ?_
  refine L_v (opv_move rfl) rfl ?_
  refine L_v ((opv_neq rfl rfl).bool_f (by decide)) rfl ?_
  refine L_nil ?_
  refine K_then ?_
  refine J_cond_false rfl ?_
  refine J_skip ?_
  refine K_then ?_
  refine J_seq ?_
  refine J_seq ?_
  refine J_region ?_
  first
    | refine L_v (opv_fieldAddr0 rfl) rfl ?_
    | refine L_v (opv_fieldAddr rfl) rfl ?_
  refine L_v ((opv_load rfl (Rd.look rfl)).as (v' := .bool true) (by rw [hm])) rfl ?_
  refine L_v (opv_not rfl) rfl ?_
  refine L_v (opv_move rfl) rfl ?_
  refine L_gskip rfl rfl rfl ?_ (fun _ h => by cases h; rfl)
  refine L_gskip rfl rfl rfl ?_ (fun _ h => by cases h; rfl)
  refine L_gskip rfl rfl rfl ?_ (fun _ h => by cases h; rfl)
  first
    | refine L_v (opv_pick_tt rfl rfl) rfl ?_
    | refine L_v (opv_pick_ff rfl rfl) rfl ?_
    | refine L_v (opv_pick rfl rfl rfl) rfl ?_
  refine L_nil ?_
  refine K_then ?_
  refine J_cond_false rfl ?_
  refine J_skip ?_
  refine K_then ?_
  refine J_seq ?_
  refine J_region ?_
  refine L_v (opv_move rfl) rfl ?_
  refine L_v (opv_loadS rfl) rfl ?_
  refine L_x rfl (opx_call0 (Rfind_spec rp r.1 r.2 B1 m wt now dr1 hn1 x hx hB) rfl rfl rfl) (fun _ _ => ?_)
  rw [if_neg hf]
  refine L_v (opv_assign rfl) rfl ?_
  refine L_nil ?_
  refine K_then ?_
  refine J_seq ?_
  refine J_seq ?_
  refine J_region ?_
  first
    | refine L_v (opv_fieldAddr0 rfl) rfl ?_
    | refine L_v (opv_fieldAddr rfl) rfl ?_
  refine L_v (opv_load rfl (Rd.look rfl)) rfl ?_
  refine L_v ((opv_eql rfl rfl).bool_t ho) rfl ?_
  refine L_nil ?_
  refine K_then ?_
  refine J_cond_true rfl ?_
  refine J_seq ?_
  refine J_seq ?_
  refine J_region ?_
  refine L_v (opv_move rfl) rfl ?_
  refine L_v ((opv_geq rfl rfl).bool_f (by omega)) rfl ?_
  refine L_nil ?_
  refine K_then ?_
  refine J_cond_false rfl ?_
  refine J_skip ?_
  refine K_then ?_
  refine J_seq ?_
  refine J_seq ?_
  refine J_region ?_
  refine L_v (opv_loadS rfl) rfl ?_
  refine L_x rfl (opx_call0 (wrong_spec x) rfl rfl rfl) (fun _ _ => ?_)
  refine L_emp ?_
  refine L_nil ?_
  refine K_then ?_
  refine J_cond rfl (fun h1 => ?_) (fun h1 => ?_)
  · refine J_seq ?_
    refine J_region ?_
    refine L_v (opv_build rfl) rfl ?_
    refine L_x rfl (opx_store rfl rfl rfl (by simp [Value.oneCell'])) (fun _ _ => ?_)
    refine L_v (opv_assign rfl) rfl ?_
    refine L_v (opv_assign rfl) rfl ?_
    refine L_nil ?_
    refine K_then ?_
    refine J_ret ?_
    refine K_then_ret ?_
    refine K_then_ret ?_
    have e : begB m now B1 x = (15, B1) := if_pos h1.2
    rw [e]
    exact K_ret3c rfl rfl rfl rfl rfl r trivial rfl (Ent.take (Q := (sep ((sep (Own 73 10 (.slice r.1 B1.length r.2) B1.length (B1.flatMap encB)) (cel rp [.slice r.1 B1.length r.2, .int .i64 m, .int .i64 wt, .int .i64 now, .int .i64 dr1] 67))) (F))))
  · refine J_skip ?_
    refine K_then ?_
    refine J_seq ?_
    refine J_seq ?_
    refine J_region ?_
    first
      | refine L_v (opv_fieldAddr0 rfl) rfl ?_
      | refine L_v (opv_fieldAddr rfl) rfl ?_
    refine L_v (opv_load rfl (Rd.look rfl)) rfl ?_
    first
      | refine L_v (opv_lenL rfl) rfl ?_
      | refine L_v (opv_lenS rfl) rfl ?_
    refine L_v (opv_gtr rfl rfl) rfl ?_
    refine L_nil ?_
    refine K_then ?_
    refine J_cond rfl (fun h2 => ?_) (fun h2 => ?_)
    · refine J_seq ?_
      refine J_region ?_
      refine L_v (opv_build rfl) rfl ?_
      refine L_x rfl (opx_store rfl rfl rfl (by simp [Value.oneCell'])) (fun _ _ => ?_)
      refine L_v (opv_assign rfl) rfl ?_
      refine L_v (opv_assign rfl) rfl ?_
      refine L_nil ?_
      refine K_then ?_
      refine J_ret ?_
      refine K_then_ret ?_
      refine K_then_ret ?_
      have e : begB m now B1 x = (11, B1) := by unfold begB; rw [if_neg (fun g => h1 ⟨hm, g⟩), if_pos (by omega)]
      rw [e]
      exact K_ret3c rfl rfl rfl rfl rfl r trivial rfl (Ent.take (Q := (sep ((sep (Own 73 10 (.slice r.1 B1.length r.2) B1.length (B1.flatMap encB)) (cel rp [.slice r.1 B1.length r.2, .int .i64 m, .int .i64 wt, .int .i64 now, .int .i64 dr1] 67))) (F))))
    · refine J_skip ?_
      refine K_then ?_
      refine J_seq ?_
      refine J_seq ?_
      refine J_quiet Try.mixed (by kernel_rfl) ?_
      refine Q_v (opv_move rfl) rfl ?_
      refine Q_v (opv_nilCheck rfl) rfl ?_
      first
        | refine Q_v (opv_fieldAddr0 rfl) rfl ?_
        | refine Q_v (opv_fieldAddr rfl) rfl ?_
      refine Q_v (opv_load rfl (Rd.look rfl)) rfl ?_
      first
        | refine Q_v (opv_lenL rfl) rfl ?_
        | refine Q_v (opv_lenS rfl) rfl ?_
      refine Q_v (opv_move rfl) rfl ?_
      refine Q_v (opv_nilCheck rfl) rfl ?_
      first
        | refine Q_v (opv_fieldAddr0 rfl) rfl ?_
        | refine Q_v (opv_fieldAddr rfl) rfl ?_
      refine Q_v (opv_load rfl (Rd.look rfl)) rfl ?_
      refine Q_v (opv_geq rfl rfl) rfl ?_
      refine QL_nil ?_
      refine K_then ?_
      refine J_cond rfl (fun h3 => ?_) (fun h3 => ?_)
      · refine J_seq ?_
        refine J_region ?_
        refine L_v (opv_build rfl) rfl ?_
        refine L_x rfl (opx_store rfl rfl rfl (by simp [Value.oneCell'])) (fun _ _ => ?_)
        refine L_v (opv_assign rfl) rfl ?_
        refine L_v (opv_assign rfl) rfl ?_
        refine L_nil ?_
        refine K_then ?_
        refine J_ret ?_
        refine K_then_ret ?_
        refine K_then_ret ?_
        have e : begB m now B1 x = (22, B1) := by unfold begB; rw [if_neg (fun g => h1 ⟨hm, g⟩), if_neg (by omega), if_pos (by omega)]
        rw [e]
        exact K_ret3c rfl rfl rfl rfl rfl r trivial rfl (Ent.take (Q := (sep ((sep (Own 73 10 (.slice r.1 B1.length r.2) B1.length (B1.flatMap encB)) (cel rp [.slice r.1 B1.length r.2, .int .i64 m, .int .i64 wt, .int .i64 now, .int .i64 dr1] 67))) (F))))
      · refine J_skip ?_
        refine K_then ?_
        refine J_seq ?_
        refine J_steps (cel b5 [.int .i64 x.id, .bool x.more, .int .i64 x.off, .int .i64 x.ttl, .int .i64 x.proto, .string (bytesL [x.s0, x.s1, x.s2, x.s3]), .string (bytesL [x.d0, x.d1, x.d2, x.d3]), .string x.data] 36) ((sep (cel b5 [.int .i64 x.id, .bool x.more, .int .i64 x.off, .int .i64 x.ttl, .int .i64 x.proto, .string (bytesL [x.s0, x.s1, x.s2, x.s3]), .string (bytesL [x.d0, x.d1, x.d2, x.d3]), .string x.data] 36) (cel rp [.slice r.1 B1.length r.2, .int .i64 m, .int .i64 wt, .int .i64 now, .int .i64 dr1] 67))) [14] Try.mixed ?_
        refine R_pure 0 rfl (by kernel_rfl) (by kernel_rfl) (by kernel_rfl) (by kernel_rfl) (.inr ⟨_, Take.eq (A := (sep (cel b5 [.int .i64 x.id, .bool x.more, .int .i64 x.off, .int .i64 x.ttl, .int .i64 x.proto, .string (bytesL [x.s0, x.s1, x.s2, x.s3]), .string (bytesL [x.d0, x.d1, x.d2, x.d3]), .string x.data] 36) (cel rp [.slice r.1 B1.length r.2, .int .i64 m, .int .i64 wt, .int .i64 now, .int .i64 dr1] 67)))⟩) (opv_move rfl) rfl ?_
        refine R_pure 1 rfl (by kernel_rfl) (by kernel_rfl) (by kernel_rfl) (by kernel_rfl) (.inr ⟨_, Take.eq (A := (sep (cel b5 [.int .i64 x.id, .bool x.more, .int .i64 x.off, .int .i64 x.ttl, .int .i64 x.proto, .string (bytesL [x.s0, x.s1, x.s2, x.s3]), .string (bytesL [x.d0, x.d1, x.d2, x.d3]), .string x.data] 36) (cel rp [.slice r.1 B1.length r.2, .int .i64 m, .int .i64 wt, .int .i64 now, .int .i64 dr1] 67)))⟩) (opv_move rfl) rfl ?_
        refine R_pure 2 rfl (by kernel_rfl) (by kernel_rfl) (by kernel_rfl) (by kernel_rfl) (.inr ⟨_, Take.eq (A := (sep (cel b5 [.int .i64 x.id, .bool x.more, .int .i64 x.off, .int .i64 x.ttl, .int .i64 x.proto, .string (bytesL [x.s0, x.s1, x.s2, x.s3]), .string (bytesL [x.d0, x.d1, x.d2, x.d3]), .string x.data] 36) (cel rp [.slice r.1 B1.length r.2, .int .i64 m, .int .i64 wt, .int .i64 now, .int .i64 dr1] 67)))⟩) (opv_nilCheck rfl) rfl ?_
        first
          | refine R_pure 3 rfl (by kernel_rfl) (by kernel_rfl) (by kernel_rfl) (by kernel_rfl) (.inr ⟨_, Take.eq (A := (sep (cel b5 [.int .i64 x.id, .bool x.more, .int .i64 x.off, .int .i64 x.ttl, .int .i64 x.proto, .string (bytesL [x.s0, x.s1, x.s2, x.s3]), .string (bytesL [x.d0, x.d1, x.d2, x.d3]), .string x.data] 36) (cel rp [.slice r.1 B1.length r.2, .int .i64 m, .int .i64 wt, .int .i64 now, .int .i64 dr1] 67)))⟩) (opv_fieldAddr0 rfl) rfl ?_
          | refine R_pure 3 rfl (by kernel_rfl) (by kernel_rfl) (by kernel_rfl) (by kernel_rfl) (.inr ⟨_, Take.eq (A := (sep (cel b5 [.int .i64 x.id, .bool x.more, .int .i64 x.off, .int .i64 x.ttl, .int .i64 x.proto, .string (bytesL [x.s0, x.s1, x.s2, x.s3]), .string (bytesL [x.d0, x.d1, x.d2, x.d3]), .string x.data] 36) (cel rp [.slice r.1 B1.length r.2, .int .i64 m, .int .i64 wt, .int .i64 now, .int .i64 dr1] 67)))⟩) (opv_fieldAddr rfl) rfl ?_
        refine R_take 4 rfl (by kernel_rfl) (by kernel_rfl) (by kernel_rfl) (by kernel_rfl) (by kernel_rfl) (opv_load rfl (Rd.look rfl)) rfl ?_
        refine R_take 5 rfl (by kernel_rfl) (by kernel_rfl) (by kernel_rfl) (by kernel_rfl) (by kernel_rfl) (opv_loadS rfl) rfl ?_
        refine R_pure 6 rfl (by kernel_rfl) (by kernel_rfl) (by kernel_rfl) (by kernel_rfl) (.inr ⟨_, Take.eq (A := (sep (cel b5 [.int .i64 x.id, .bool x.more, .int .i64 x.off, .int .i64 x.ttl, .int .i64 x.proto, .string (bytesL [x.s0, x.s1, x.s2, x.s3]), .string (bytesL [x.d0, x.d1, x.d2, x.d3]), .string x.data] 36) (cel rp [.slice r.1 B1.length r.2, .int .i64 m, .int .i64 wt, .int .i64 now, .int .i64 dr1] 67)))⟩) (opv_move rfl) rfl ?_
        first
          | refine R_pure 7 rfl (by kernel_rfl) (by kernel_rfl) (by kernel_rfl) (by kernel_rfl) (.inr ⟨_, Take.eq (A := (sep (cel b5 [.int .i64 x.id, .bool x.more, .int .i64 x.off, .int .i64 x.ttl, .int .i64 x.proto, .string (bytesL [x.s0, x.s1, x.s2, x.s3]), .string (bytesL [x.d0, x.d1, x.d2, x.d3]), .string x.data] 36) (cel rp [.slice r.1 B1.length r.2, .int .i64 m, .int .i64 wt, .int .i64 now, .int .i64 dr1] 67)))⟩) (opv_fieldAddr0 rfl) rfl ?_
          | refine R_pure 7 rfl (by kernel_rfl) (by kernel_rfl) (by kernel_rfl) (by kernel_rfl) (.inr ⟨_, Take.eq (A := (sep (cel b5 [.int .i64 x.id, .bool x.more, .int .i64 x.off, .int .i64 x.ttl, .int .i64 x.proto, .string (bytesL [x.s0, x.s1, x.s2, x.s3]), .string (bytesL [x.d0, x.d1, x.d2, x.d3]), .string x.data] 36) (cel rp [.slice r.1 B1.length r.2, .int .i64 m, .int .i64 wt, .int .i64 now, .int .i64 dr1] 67)))⟩) (opv_fieldAddr rfl) rfl ?_
        refine R_take 8 rfl (by kernel_rfl) (by kernel_rfl) (by kernel_rfl) (by kernel_rfl) (by kernel_rfl) (opv_load rfl (Rd.look rfl)) rfl ?_
        refine R_pure 9 rfl (by kernel_rfl) (by kernel_rfl) (by kernel_rfl) (by kernel_rfl) (.inr ⟨_, Take.eq (A := (sep (cel b5 [.int .i64 x.id, .bool x.more, .int .i64 x.off, .int .i64 x.ttl, .int .i64 x.proto, .string (bytesL [x.s0, x.s1, x.s2, x.s3]), .string (bytesL [x.d0, x.d1, x.d2, x.d3]), .string x.data] 36) (cel rp [.slice r.1 B1.length r.2, .int .i64 m, .int .i64 wt, .int .i64 now, .int .i64 dr1] 67)))⟩) (opv_build rfl) rfl ?_
        refine R_only 10 rfl rfl (by kernel_rfl) (opx_buildSlice1 (m := 10) rfl rfl (by omega) (by omega) rfl) (fun _ _ => ⟨_, Take.eq (A := cel b5 [.int .i64 x.id, .bool x.more, .int .i64 x.off, .int .i64 x.ttl, .int .i64 x.proto, .string (bytesL [x.s0, x.s1, x.s2, x.s3]), .string (bytesL [x.d0, x.d1, x.d2, x.d3]), .string x.data] 36)⟩) (.inr fun _ _ => ⟨_, Take.eq (A := (sep (cel b5 [.int .i64 x.id, .bool x.more, .int .i64 x.off, .int .i64 x.ttl, .int .i64 x.proto, .string (bytesL [x.s0, x.s1, x.s2, x.s3]), .string (bytesL [x.d0, x.d1, x.d2, x.d3]), .string x.data] 36) (cel rp [.slice r.1 B1.length r.2, .int .i64 m, .int .i64 wt, .int .i64 now, .int .i64 dr1] 67)))⟩) (fun b76 _ => ?_)
        refine R_only 11 rfl rfl (by kernel_rfl) (opx_append (m := 10) (B := 112) rfl rfl (Src.lit) rfl (by omega) rfl (encB_one ⟨x, now, x.data⟩) (by unfold maxLen; omega) (by omega) rfl) (fun _ _ => ⟨_, Take.eq (A := cel b5 [.int .i64 x.id, .bool x.more, .int .i64 x.off, .int .i64 x.ttl, .int .i64 x.proto, .string (bytesL [x.s0, x.s1, x.s2, x.s3]), .string (bytesL [x.d0, x.d1, x.d2, x.d3]), .string x.data] 36)⟩) (.inr fun _ _ => ⟨_, Take.eq (A := (sep (cel b5 [.int .i64 x.id, .bool x.more, .int .i64 x.off, .int .i64 x.ttl, .int .i64 x.proto, .string (bytesL [x.s0, x.s1, x.s2, x.s3]), .string (bytesL [x.d0, x.d1, x.d2, x.d3]), .string x.data] 36) (cel rp [.slice r.1 B1.length r.2, .int .i64 m, .int .i64 wt, .int .i64 now, .int .i64 dr1] 67)))⟩) (fun y77 _ => ?_)
        refine R_pure 12 rfl (by kernel_rfl) (by kernel_rfl) (by kernel_rfl) (by kernel_rfl) (.inr ⟨_, Take.eq (A := (sep (cel b5 [.int .i64 x.id, .bool x.more, .int .i64 x.off, .int .i64 x.ttl, .int .i64 x.proto, .string (bytesL [x.s0, x.s1, x.s2, x.s3]), .string (bytesL [x.d0, x.d1, x.d2, x.d3]), .string x.data] 36) (cel rp [.slice r.1 B1.length r.2, .int .i64 m, .int .i64 wt, .int .i64 now, .int .i64 dr1] 67)))⟩) (opv_nilCheck rfl) rfl ?_
        first
          | refine R_pure 13 rfl (by kernel_rfl) (by kernel_rfl) (by kernel_rfl) (by kernel_rfl) (.inr ⟨_, Take.eq (A := (sep (cel b5 [.int .i64 x.id, .bool x.more, .int .i64 x.off, .int .i64 x.ttl, .int .i64 x.proto, .string (bytesL [x.s0, x.s1, x.s2, x.s3]), .string (bytesL [x.d0, x.d1, x.d2, x.d3]), .string x.data] 36) (cel rp [.slice r.1 B1.length r.2, .int .i64 m, .int .i64 wt, .int .i64 now, .int .i64 dr1] 67)))⟩) (opv_fieldAddr0 rfl) rfl ?_
          | refine R_pure 13 rfl (by kernel_rfl) (by kernel_rfl) (by kernel_rfl) (by kernel_rfl) (.inr ⟨_, Take.eq (A := (sep (cel b5 [.int .i64 x.id, .bool x.more, .int .i64 x.off, .int .i64 x.ttl, .int .i64 x.proto, .string (bytesL [x.s0, x.s1, x.s2, x.s3]), .string (bytesL [x.d0, x.d1, x.d2, x.d3]), .string x.data] 36) (cel rp [.slice r.1 B1.length r.2, .int .i64 m, .int .i64 wt, .int .i64 now, .int .i64 dr1] 67)))⟩) (opv_fieldAddr rfl) rfl ?_
        refine R_only 14 rfl rfl (by kernel_rfl) (opx_store rfl rfl rfl (by simp [Value.oneCell'])) (fun _ _ => ⟨_, Take.eq (A := cel b5 [.int .i64 x.id, .bool x.more, .int .i64 x.off, .int .i64 x.ttl, .int .i64 x.proto, .string (bytesL [x.s0, x.s1, x.s2, x.s3]), .string (bytesL [x.d0, x.d1, x.d2, x.d3]), .string x.data] 36)⟩) (.inl (by kernel_rfl)) (fun _ _ => ?_)
        refine R_done (by kernel_rfl) ?_
        refine K_then ?_
        refine J_seq ?_
        refine J_region ?_
        refine L_v (opv_build rfl) rfl ?_
        refine L_x rfl (opx_store rfl rfl rfl (by simp [Value.oneCell'])) (fun _ _ => ?_)
        refine L_v (opv_assign rfl) rfl ?_
        refine L_v (opv_assign rfl) rfl ?_
        refine L_nil ?_
        refine K_then ?_
        refine J_ret ?_
        refine K_then_ret ?_
        have e : begB m now B1 x = (0, B1 ++ [⟨x, now, x.data⟩]) := by unfold begB; rw [if_neg (fun g => h1 ⟨hm, g⟩), if_neg (by omega), if_neg (by omega)]
        rw [snocB_len B1 ⟨x, now, x.data⟩, snocB B1 ⟨x, now, x.data⟩]
        rw [e]
        exact K_ret3c rfl rfl rfl rfl rfl y77 trivial rfl (Ent.take (Q := (sep ((sep (Own 73 10 (.slice y77.1 (B1 ++ [(⟨x, now, x.data⟩ : Bgr)]).length y77.2) (B1 ++ [(⟨x, now, x.data⟩ : Bgr)]).length ((B1 ++ [(⟨x, now, x.data⟩ : Bgr)]).flatMap encB)) (cel rp [.slice y77.1 (B1 ++ [(⟨x, now, x.data⟩ : Bgr)]).length y77.2, .int .i64 m, .int .i64 wt, .int .i64 now, .int .i64 dr1] 67))) (F))))

theorem RPut_none (rp : Nat) (A : Option Addr) (c : Nat) (B : List Bgr) (m wt now0 dr : Int) (hn : B.length ≤ 1000000) (now : Int) (x : Pk) (hx : okA x) (h : timC now0 now = 0) (h0 : 0 ≤ now0) (hwt : 0 ≤ wt ∧ wt ≤ 1125899906842624) (hb : ∀ b ∈ B, 0 ≤ b.t ∧ b.t ≤ 1125899906842624) (hdr : 0 ≤ dr ∧ dr ≤ 1000000) (B1 : List Bgr) (dr1 : Int) (h1 : B.filter (keepB wt now) = B1) (h2 : dr + B.length - B1.length = dr1) (hB : ∀ b ∈ B1, okA b.p) (hn1 : B1.length ≤ 1000000) (hd1 : 0 ≤ dr1 ∧ dr1 ≤ 1000000) (hxd : x.data.size ≤ 1000000) (ho : x.off ≠ 0) (hf : ¬ fB B1 x < B1.length) : FSpec Try.prog 33 #[.pointer (some (ad rp 0)), .int .i64 now, .agg [.int .i64 x.id, .bool x.more, .int .i64 x.off, .int .i64 x.ttl, .int .i64 x.proto, .string (bytesL [x.s0, x.s1, x.s2, x.s3]), .string (bytesL [x.d0, x.d1, x.d2, x.d3]), .string x.data].toArray] ((sep (Own 73 10 (.slice A B.length c) B.length (B.flatMap encB)) (cel rp [.slice A B.length c, .int .i64 m, .int .i64 wt, .int .i64 now0, .int .i64 dr] 67))) (fun r : Option Addr × Nat => True) (fun r => .tuple #[.agg [.int .i64 0, .bool false, .int .i64 0, .int .i64 0, .int .i64 0, .string ⟨#[]⟩, .string ⟨#[]⟩, .string ⟨#[]⟩].toArray, .bool false, .int .i64 25]) (fun r => (sep (Own 73 10 (.slice r.1 B1.length r.2) B1.length (B1.flatMap encB)) (cel rp [.slice r.1 B1.length r.2, .int .i64 m, .int .i64 wt, .int .i64 now, .int .i64 dr1] 67))) := by
  refine FSpec.enter' Try.func33 rfl Try.ntmps33 rfl fun σ F => ?_
  refine J_seq ?_
  refine J_region ?_
  refine L_x rfl (opx_box (l := [.int .i64 x.id, .bool x.more, .int .i64 x.off, .int .i64 x.ttl, .int .i64 x.proto, .string (bytesL [x.s0, x.s1, x.s2, x.s3]), .string (bytesL [x.d0, x.d1, x.d2, x.d3]), .string x.data]) rfl rfl) (fun b5 _ => ?_)
  refine L_x rfl (opx_alloc rfl) (fun b6 _ => ?_)
  refine L_v (opv_assign rfl) rfl ?_
  refine L_v (opv_assign rfl) rfl ?_
  refine L_nil ?_
  refine K_then ?_
  refine J_seq ?_
  refine J_region ?_
  refine L_v (opv_move rfl) rfl ?_
  refine L_v (opv_move rfl) rfl ?_
  refine L_x rfl (opx_call0 (RPass_z rp A c B m wt now0 dr hn now h h0 hwt hb hdr B1 dr1 h1 h2) rfl rfl rfl) (fun r _ => ?_)
  refine L_v (opv_assign rfl) rfl ?_
  refine L_nil ?_
  refine K_then ?_
  refine J_seq ?_
  refine J_seq ?_
  refine J_region ?_
  refine L_v (opv_move rfl) rfl ?_
  refine L_v ((opv_neq rfl rfl).bool_f (by decide)) rfl ?_
  refine L_nil ?_
  refine K_then ?_
  refine J_cond_false rfl ?_
  refine J_skip ?_
  refine K_then ?_
  refine J_seq ?_
  refine J_seq ?_
  refine J_region ?_
  first
    | refine L_v (opv_fieldAddr0 rfl) rfl ?_
    | refine L_v (opv_fieldAddr rfl) rfl ?_
  refine L_v ((opv_load rfl (Rd.look rfl)).as (v' := .bool (decide (x.more = true))) (by simp)) rfl ?_
  refine L_v ((opv_notD rfl)) rfl ?_
  refine L_v (opv_move rfl) rfl ?_
  refine L_gt rfl rfl (fun h1 => ?_) (fun h1 => ?_) (fun _ h => by cases h; rfl)
  · first
      | refine L_v (opv_fieldAddr0 rfl) rfl ?_
      | refine L_v (opv_fieldAddr rfl) rfl ?_
    refine L_gt_on h1 rfl rfl ?_
    refine L_v (opv_load rfl (Rd.look rfl)) rfl ?_
    refine L_gt_on h1 rfl rfl ?_
    refine L_v ((opv_eql rfl rfl).bool_f ho) rfl ?_
    refine L_v (opv_pick_t rfl h1 rfl) rfl ?_
    refine L_nil ?_
    refine K_then ?_
    refine J_cond_false rfl ?_
    refine J_skip ?_
    refine K_then ?_
    refine J_seq ?_
    refine J_region ?_
    refine L_v (opv_move rfl) rfl ?_
    refine L_v (opv_loadS rfl) rfl ?_
    refine L_x rfl (opx_call0 (Rfind_spec rp r.1 r.2 B1 m wt now dr1 hn1 x hx hB) rfl rfl rfl) (fun _ _ => ?_)
    rw [if_neg hf]
    refine L_v (opv_assign rfl) rfl ?_
    refine L_nil ?_
    refine K_then ?_
    refine J_seq ?_
    refine J_seq ?_
    refine J_region ?_
    first
      | refine L_v (opv_fieldAddr0 rfl) rfl ?_
      | refine L_v (opv_fieldAddr rfl) rfl ?_
    refine L_v (opv_load rfl (Rd.look rfl)) rfl ?_
    refine L_v ((opv_eql rfl rfl).bool_f ho) rfl ?_
    refine L_nil ?_
    refine K_then ?_
    refine J_cond_false rfl ?_
    refine J_skip ?_
    refine K_then ?_
    refine J_seq ?_
    refine J_seq ?_
    refine J_region ?_
    refine L_v (opv_move rfl) rfl ?_
    refine L_v ((opv_lss rfl rfl).bool_t (by decide)) rfl ?_
    refine L_nil ?_
    refine K_then ?_
    refine J_cond_true rfl ?_
    refine J_seq ?_
    refine J_region ?_
    refine L_v (opv_build rfl) rfl ?_
    refine L_x rfl (opx_store rfl rfl rfl (by simp [Value.oneCell'])) (fun _ _ => ?_)
    refine L_v (opv_assign rfl) rfl ?_
    refine L_v (opv_assign rfl) rfl ?_
    refine L_nil ?_
    refine K_then ?_
    refine J_ret ?_
    refine K_then_ret ?_
    exact K_ret3c rfl rfl rfl rfl rfl r trivial rfl (Ent.take (Q := (sep ((sep (Own 73 10 (.slice r.1 B1.length r.2) B1.length (B1.flatMap encB)) (cel rp [.slice r.1 B1.length r.2, .int .i64 m, .int .i64 wt, .int .i64 now, .int .i64 dr1] 67))) (F))))
  · refine L_gt_off h1 rfl rfl ?_ (fun _ h => by cases h; rfl)
    refine L_gt_off h1 rfl rfl ?_ (fun _ h => by cases h; rfl)
    refine L_v (opv_pick_f rfl h1 rfl) rfl ?_
    refine L_nil ?_
    refine K_then ?_
    refine J_cond_false rfl ?_
    refine J_skip ?_
    refine K_then ?_
    refine J_seq ?_
    refine J_region ?_
    refine L_v (opv_move rfl) rfl ?_
    refine L_v (opv_loadS rfl) rfl ?_
    refine L_x rfl (opx_call0 (Rfind_spec rp r.1 r.2 B1 m wt now dr1 hn1 x hx hB) rfl rfl rfl) (fun _ _ => ?_)
    rw [if_neg hf]
    refine L_v (opv_assign rfl) rfl ?_
    refine L_nil ?_
    refine K_then ?_
    refine J_seq ?_
    refine J_seq ?_
    refine J_region ?_
    first
      | refine L_v (opv_fieldAddr0 rfl) rfl ?_
      | refine L_v (opv_fieldAddr rfl) rfl ?_
    refine L_v (opv_load rfl (Rd.look rfl)) rfl ?_
    refine L_v ((opv_eql rfl rfl).bool_f ho) rfl ?_
    refine L_nil ?_
    refine K_then ?_
    refine J_cond_false rfl ?_
    refine J_skip ?_
    refine K_then ?_
    refine J_seq ?_
    refine J_seq ?_
    refine J_region ?_
    refine L_v (opv_move rfl) rfl ?_
    refine L_v ((opv_lss rfl rfl).bool_t (by decide)) rfl ?_
    refine L_nil ?_
    refine K_then ?_
    refine J_cond_true rfl ?_
    refine J_seq ?_
    refine J_region ?_
    refine L_v (opv_build rfl) rfl ?_
    refine L_x rfl (opx_store rfl rfl rfl (by simp [Value.oneCell'])) (fun _ _ => ?_)
    refine L_v (opv_assign rfl) rfl ?_
    refine L_v (opv_assign rfl) rfl ?_
    refine L_nil ?_
    refine K_then ?_
    refine J_ret ?_
    refine K_then_ret ?_
    exact K_ret3c rfl rfl rfl rfl rfl r trivial rfl (Ent.take (Q := (sep ((sep (Own 73 10 (.slice r.1 B1.length r.2) B1.length (B1.flatMap encB)) (cel rp [.slice r.1 B1.length r.2, .int .i64 m, .int .i64 wt, .int .i64 now, .int .i64 dr1] 67))) (F))))

end Go.Proofs.Ytjpbpfihacfndaa
