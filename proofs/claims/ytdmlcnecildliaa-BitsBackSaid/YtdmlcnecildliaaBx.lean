/- The law BitsWrites of the package pitotlaw01 holds for every input: which bytes things are, or that one of them may not be. No condition. -/
import Derived.Test.YtdmlcnecildliaaBw
import Derived.Test.YtdmlcnecildliaaX
import Derived.Test.YtdmlcnecildliaaH
namespace Go.Proofs.Ytdmlcnecildliaa
open Go.SLA
set_option maxRecDepth 100000
set_option linter.unusedVariables false
set_option linter.unusedSimpArgs false
attribute [local irreducible] J L K QL Rg FSpec OpV OpX Rd Back

theorem putS_true (s : ByteArray) (m : Int) (c : Nat) : putS s true m c = (s, true) := by unfold putS; rw [if_pos rfl]
theorem bitsS_true (s : ByteArray) (ws ls : List Int) : bitsS s true ws ls = (s, true) := by unfold bitsS; rw [if_pos rfl]
theorem bitsS_sz (s : ByteArray) (bad : Bool) (ws ls : List Int) : (bitsS s bad ws ls).1.size ≤ s.size + 4 := by
  unfold bitsS
  split
  · dsimp only; omega
  · split
    · dsimp only; omega
    · split
      · dsimp only; omega
      · rename_i n _
        have h1 := putS_size s false (n : Int) ((sumW ws).toNat / 8)
        have h2 := sumW_vals ws
        omega
def txtS (s : ByteArray) (bad : Bool) (t : ByteArray) : ByteArray × Bool := if bad = true then (s, true) else (s ++ t, false)
/-- What a thing more makes of a writer. -/
def wrS (s : ByteArray) (bad : Bool) (x : It) : ByteArray × Bool :=
  if x.ask = 0 then putS s bad x.num 1 else if x.ask = 1 then putS s bad x.num 2 else if x.ask = 2 then putS s bad x.num 4 else if x.ask = 3 then txtS s bad x.s else if x.ask = 4 then bitsS s bad x.ws x.ls else (s, bad)
structure Small (x : It) : Prop where
  s : x.s.size ≤ 500
  w : x.wl ≤ 40
  l : x.ll ≤ 40
theorem wrS_sz {s : ByteArray} {bad : Bool} {x : It} (h : Small x) : (wrS s bad x).1.size ≤ s.size + 500 := by
  have h1 := h.s
  have p1 := putS_size s bad x.num 1
  have p2 := putS_size s bad x.num 2
  have p4 := putS_size s bad x.num 4
  have b1 := bitsS_sz s bad x.ws x.ls
  unfold wrS txtS
  split
  · omega
  · split
    · omega
    · split
      · omega
      · split
        · split
          · dsimp only; omega
          · rw [ByteArray.size_append]; omega
        · split
          · omega
          · dsimp only; omega
theorem wf64 {n : Int} (h : (Lit.int .i64 n).wf = true) : -9223372036854775808 ≤ n ∧ n ≤ 9223372036854775807 := by simpa [Lit.wf, IntKind.min, IntKind.max, IntKind.signed, IntKind.bits] using h
theorem WText_any (p : Nat) (s t : ByteArray) (bad : Bool) (hs : s.size ≤ 1099511627776) (ht : t.size ≤ 1099511627776) : FSpec Try.prog 43 #[.pointer (some (ad p 0)), .string t] (WrP p s bad) (fun _ : Unit => True) (fun _ => .tuple #[]) (fun _ => WrP p (txtS s bad t).1 (txtS s bad t).2) := by
  unfold txtS
  cases bad with
  | true => exact WText_bad p s t
  | false => exact WText_ok p s t hs ht
theorem RWText_any (q : Nat) (s t : ByteArray) (bad : Bool) (hs : s.size ≤ 1099511627776) (ht : t.size ≤ 1099511627776) : FSpec Try.prog 49 #[.pointer (some (ad q 0)), .string t] (cel q [.string s, .bool bad] 45) (fun _ : Unit => True) (fun _ => .tuple #[]) (fun _ => cel q [.string (txtS s bad t).1, .bool (txtS s bad t).2] 45) := by
  unfold txtS
  cases bad with
  | true => exact RWText_bad q s t
  | false => exact RWText_ok q s t hs ht
theorem Bits_it (W : World) (p : Nat) (s : ByteArray) (bad : Bool) (x : It) (ok : okIt W x) (hx : Small x) (hs : s.size ≤ 1099511627776) : FSpec Try.prog 44 #[.pointer (some (ad p 0)), .slice x.wa x.wl x.wc, .slice x.la x.ll x.lc] (sep (WrP p s bad) (old W)) (fun _ : Unit => True) (fun _ => .tuple #[]) (fun _ => (sep (WrP p (bitsS s bad x.ws x.ls).1 (bitsS s bad x.ws x.ls).2) (old W))) := by
  have ew := ok.wi.1
  have el := ok.li.1
  have hw := hx.w
  have hl := hx.l
  cases bad with
  | true =>
    rw [bitsS_true]
    exact (Bits_bad p s _ _).frame _
  | false =>
    have hR : RdS (old W) encZ 1 x.wa x.ws := RdS.old ok.wi
    have hL : RdS (old W) encZ 1 x.la x.ls := RdS.old ok.li
    rw [← ew, ← el]
    by_cases h : sumW x.ws = 0
    · rw [show bitsS s false x.ws x.ls = (s, true) by unfold bitsS; rw [if_neg (by decide), if_pos (.inl h)]]
      exact Bits_no0 p s (old W) x.wa x.la x.wc x.lc x.ws x.ls hR hL (by omega) (fun v hv => wf64 (ok.ws v hv)) (fun v hv => wf64 (ok.ls v hv)) h
    · by_cases h2 : x.ws.length = x.ls.length
      · exact Bits_go p s (old W) x.wa x.la x.wc x.lc x.ws x.ls hR hL (by omega) (fun v hv => wf64 (ok.ws v hv)) (fun v hv => wf64 (ok.ls v hv)) h h2 hs
      · rw [show bitsS s false x.ws x.ls = (s, true) by unfold bitsS; rw [if_neg (by decide), if_pos (.inr h2)]]
        exact Bits_no1 p s (old W) x.wa x.la x.wc x.lc x.ws x.ls hR hL (by omega) (fun v hv => wf64 (ok.ws v hv)) (fun v hv => wf64 (ok.ls v hv)) h h2
theorem RWBits_it (W : World) (q : Nat) (s : ByteArray) (x : It) (ok : okIt W x) (hx : Small x) (hs : s.size ≤ 1099511627776) : FSpec Try.prog 50 #[.pointer (some (ad q 0)), .slice x.wa x.wl x.wc, .slice x.la x.ll x.lc] (sep (cel q [.string s, .bool false] 45) (old W)) (fun _ : Unit => True) (fun _ => .tuple #[]) (fun _ => (sep (cel q [.string (bitsS s false x.ws x.ls).1, .bool (bitsS s false x.ws x.ls).2] 45) (old W))) := by
  have ew := ok.wi.1
  have el := ok.li.1
  have hw := hx.w
  have hl := hx.l
  have hR : RdS (old W) encZ 1 x.wa x.ws := RdS.old ok.wi
  have hL : RdS (old W) encZ 1 x.la x.ls := RdS.old ok.li
  rw [← ew, ← el]
  by_cases h : sumW x.ws = 0 ∨ x.ws.length ≠ x.ls.length
  · rw [show bitsS s false x.ws x.ls = (s, true) by unfold bitsS; rw [if_neg (by decide), if_pos h]]
    exact RWBits_no q s (old W) x.wa x.la x.wc x.lc x.ws x.ls hR hL (by omega) (fun v hv => wf64 (ok.ws v hv)) (fun v hv => wf64 (ok.ls v hv)) h
  · exact RWBits_go q s (old W) x.wa x.la x.wc x.lc x.ws x.ls hR hL (by omega) (fun v hv => wf64 (ok.ws v hv)) (fun v hv => wf64 (ok.ls v hv)) (fun g => h (.inl g)) (Classical.not_not.1 fun g => h (.inr g)) hs
def outS (s : ByteArray) (bad : Bool) : ByteArray × Int := if bad = true then (ByteArray.empty, 1) else (s, 0)
theorem Bytes_any (p : Nat) (s : ByteArray) (bad : Bool) : FSpec Try.prog 25 #[.pointer (some (ad p 0))] (WrP p s bad) (fun _ : Unit => True) (fun _ => .tuple #[.string (outS s bad).1, .int .i64 (outS s bad).2]) (fun _ => WrP p s bad) := by
  cases bad with
  | true => exact Bytes_bad p s
  | false => exact Bytes_ok p s
theorem RWBytes_any (q : Nat) (s : ByteArray) (bad : Bool) : FSpec Try.prog 26 #[.pointer (some (ad q 0))] (cel q [.string s, .bool bad] 45) (fun _ : Unit => True) (fun _ => .tuple #[.string (outS s bad).1, .int .i64 (outS s bad).2]) (fun _ => cel q [.string s, .bool bad] 45) := by
  cases bad with
  | true => exact RWBytes_bad q s
  | false => exact RWBytes_ok q s

theorem write_spec (W : World) (p : Nat) (s : ByteArray) (bad : Bool) (x : It) (ok : okIt W x) (hx : Small x) (hs : s.size ≤ 1000000) : FSpec Try.prog 23 #[.pointer (some (ad p 0)), .agg [.int .i64 x.ask, .int .i64 x.num, .string x.s, .slice x.wa x.wl x.wc, .slice x.la x.ll x.lc].toArray] ((sep (WrP p s bad) (old W))) (fun _ : Unit => True) (fun _ => .tuple #[]) (fun _ => (sep (WrP p (wrS s bad x).1 (wrS s bad x).2) (old W))) := by
  have hnum := wf64 ok.num
  have hxs := hx.s
  refine FSpec.enter' Try.func23 rfl Try.ntmps23 rfl fun σ F => ?_
  refine J_seq ?_
  refine J_region ?_
  refine L_x rfl (opx_box (l := [.int .i64 x.ask, .int .i64 x.num, .string x.s, .slice x.wa x.wl x.wc, .slice x.la x.ll x.lc]) rfl rfl) (fun b3 _ => ?_)
  refine L_nil ?_
  refine K_then ?_
  refine J_seq ?_
  refine J_region ?_
  first
    | refine L_v (opv_fieldAddr0 rfl) rfl ?_
    | refine L_v (opv_fieldAddr rfl) rfl ?_
  refine L_v (opv_load rfl (Rd.look rfl)) rfl ?_
  refine L_nil ?_
  refine K_then ?_
  refine J_block ?_
  refine J_seq ?_
  refine J_region ?_
  first
    | refine L_v (opv_eql rfl rfl) rfl ?_
    | refine L_v (opv_eqlS rfl rfl) rfl ?_
    | refine L_v (opv_eqlNil rfl rfl) rfl ?_
    | refine L_v (opv_eqlB rfl rfl) rfl ?_
  refine L_v (opv_assign rfl) rfl ?_
  refine L_nil ?_
  refine K_then ?_
  refine J_cond rfl (fun h1 => ?_) (fun h1 => ?_)
  · refine J_region ?_
    refine L_v (opv_move rfl) rfl ?_
    first
      | refine L_v (opv_fieldAddr0 rfl) rfl ?_
      | refine L_v (opv_fieldAddr rfl) rfl ?_
    refine L_v (opv_load rfl (Rd.look rfl)) rfl ?_
    refine L_x rfl (opx_call0 (U8_spec p s bad x.num hnum (by omega)) rfl rfl rfl) (fun _ _ => ?_)
    refine L_nil ?_
    refine K_block ?_
    have e : wrS s bad x = putS s bad x.num 1 := by unfold wrS; rw [if_pos h1]
    rw [e]
    exact K_end0 rfl () trivial rfl Ent.take
  · refine J_seq ?_
    refine J_region ?_
    first
      | refine L_v (opv_eql rfl rfl) rfl ?_
      | refine L_v (opv_eqlS rfl rfl) rfl ?_
      | refine L_v (opv_eqlNil rfl rfl) rfl ?_
      | refine L_v (opv_eqlB rfl rfl) rfl ?_
    refine L_v (opv_assign rfl) rfl ?_
    refine L_nil ?_
    refine K_then ?_
    refine J_cond rfl (fun h2 => ?_) (fun h2 => ?_)
    · refine J_region ?_
      refine L_v (opv_move rfl) rfl ?_
      first
        | refine L_v (opv_fieldAddr0 rfl) rfl ?_
        | refine L_v (opv_fieldAddr rfl) rfl ?_
      refine L_v (opv_load rfl (Rd.look rfl)) rfl ?_
      refine L_x rfl (opx_call0 (U16_spec p s bad x.num hnum (by omega)) rfl rfl rfl) (fun _ _ => ?_)
      refine L_nil ?_
      refine K_block ?_
      have e : wrS s bad x = putS s bad x.num 2 := by unfold wrS; rw [if_neg h1, if_pos h2]
      rw [e]
      exact K_end0 rfl () trivial rfl Ent.take
    · refine J_seq ?_
      refine J_region ?_
      first
        | refine L_v (opv_eql rfl rfl) rfl ?_
        | refine L_v (opv_eqlS rfl rfl) rfl ?_
        | refine L_v (opv_eqlNil rfl rfl) rfl ?_
        | refine L_v (opv_eqlB rfl rfl) rfl ?_
      refine L_v (opv_assign rfl) rfl ?_
      refine L_nil ?_
      refine K_then ?_
      refine J_cond rfl (fun h3 => ?_) (fun h3 => ?_)
      · refine J_region ?_
        refine L_v (opv_move rfl) rfl ?_
        first
          | refine L_v (opv_fieldAddr0 rfl) rfl ?_
          | refine L_v (opv_fieldAddr rfl) rfl ?_
        refine L_v (opv_load rfl (Rd.look rfl)) rfl ?_
        refine L_x rfl (opx_call0 (U32_spec p s bad x.num hnum (by omega)) rfl rfl rfl) (fun _ _ => ?_)
        refine L_nil ?_
        refine K_block ?_
        have e : wrS s bad x = putS s bad x.num 4 := by unfold wrS; rw [if_neg h1, if_neg h2, if_pos h3]
        rw [e]
        exact K_end0 rfl () trivial rfl Ent.take
      · refine J_seq ?_
        refine J_region ?_
        first
          | refine L_v (opv_eql rfl rfl) rfl ?_
          | refine L_v (opv_eqlS rfl rfl) rfl ?_
          | refine L_v (opv_eqlNil rfl rfl) rfl ?_
          | refine L_v (opv_eqlB rfl rfl) rfl ?_
        refine L_v (opv_assign rfl) rfl ?_
        refine L_nil ?_
        refine K_then ?_
        refine J_cond rfl (fun h4 => ?_) (fun h4 => ?_)
        · refine J_region ?_
          refine L_v (opv_move rfl) rfl ?_
          first
            | refine L_v (opv_fieldAddr0 rfl) rfl ?_
            | refine L_v (opv_fieldAddr rfl) rfl ?_
          refine L_v (opv_load rfl (Rd.look rfl)) rfl ?_
          refine L_x rfl (opx_call0 (WText_any p s x.s bad (by omega) (by omega)) rfl rfl rfl) (fun _ _ => ?_)
          refine L_nil ?_
          refine K_block ?_
          have e : wrS s bad x = txtS s bad x.s := by unfold wrS; rw [if_neg h1, if_neg h2, if_neg h3, if_pos h4]
          rw [e]
          exact K_end0 rfl () trivial rfl Ent.take
        · refine J_seq ?_
          refine J_region ?_
          first
            | refine L_v (opv_eql rfl rfl) rfl ?_
            | refine L_v (opv_eqlS rfl rfl) rfl ?_
            | refine L_v (opv_eqlNil rfl rfl) rfl ?_
            | refine L_v (opv_eqlB rfl rfl) rfl ?_
          refine L_v (opv_assign rfl) rfl ?_
          refine L_nil ?_
          refine K_then ?_
          refine J_cond rfl (fun h5 => ?_) (fun h5 => ?_)
          · refine J_region ?_
            refine L_v (opv_move rfl) rfl ?_
            first
              | refine L_v (opv_fieldAddr0 rfl) rfl ?_
              | refine L_v (opv_fieldAddr rfl) rfl ?_
            refine L_v (opv_load rfl (Rd.look rfl)) rfl ?_
            first
              | refine L_v (opv_fieldAddr0 rfl) rfl ?_
              | refine L_v (opv_fieldAddr rfl) rfl ?_
            refine L_v (opv_load rfl (Rd.look rfl)) rfl ?_
            refine L_x rfl (opx_call0 (Bits_it W p s bad x ok hx (by omega)) rfl rfl rfl) (fun _ _ => ?_)
            refine L_nil ?_
            refine K_block ?_
            have e : wrS s bad x = bitsS s bad x.ws x.ls := by unfold wrS; rw [if_neg h1, if_neg h2, if_neg h3, if_neg h4, if_pos h5]
            rw [e]
            exact K_end0 rfl () trivial rfl Ent.take
          · refine J_skip ?_
            refine K_block ?_
            have e : wrS s bad x = (s, bad) := by unfold wrS; rw [if_neg h1, if_neg h2, if_neg h3, if_neg h4, if_neg h5]
            rw [e]
            exact K_end0 rfl () trivial rfl Ent.take

theorem plain_spec (W : World) (q : Nat) (s : ByteArray) (bad : Bool) (x : It) (ok : okIt W x) (hx : Small x) (hs : s.size ≤ 1000000) : FSpec Try.prog 24 #[.pointer (some (ad q 0)), .agg [.int .i64 x.ask, .int .i64 x.num, .string x.s, .slice x.wa x.wl x.wc, .slice x.la x.ll x.lc].toArray] ((sep (cel q [.string s, .bool bad] 45) (old W))) (fun _ : Unit => True) (fun _ => .tuple #[]) (fun _ => (sep (cel q [.string (wrS s bad x).1, .bool (wrS s bad x).2] 45) (old W))) := by
  have hnum := wf64 ok.num
  have hxs := hx.s
  refine FSpec.enter' Try.func24 rfl Try.ntmps24 rfl fun σ F => ?_
  refine J_seq ?_
  refine J_region ?_
  refine L_x rfl (opx_box (l := [.int .i64 x.ask, .int .i64 x.num, .string x.s, .slice x.wa x.wl x.wc, .slice x.la x.ll x.lc]) rfl rfl) (fun b3 _ => ?_)
  refine L_nil ?_
  refine K_then ?_
  refine J_seq ?_
  refine J_region ?_
  first
    | refine L_v (opv_fieldAddr0 rfl) rfl ?_
    | refine L_v (opv_fieldAddr rfl) rfl ?_
  refine L_v (opv_load rfl (Rd.look rfl)) rfl ?_
  refine L_nil ?_
  refine K_then ?_
  refine J_block ?_
  refine J_seq ?_
  refine J_region ?_
  first
    | refine L_v (opv_eql rfl rfl) rfl ?_
    | refine L_v (opv_eqlS rfl rfl) rfl ?_
    | refine L_v (opv_eqlNil rfl rfl) rfl ?_
    | refine L_v (opv_eqlB rfl rfl) rfl ?_
  refine L_v (opv_assign rfl) rfl ?_
  refine L_nil ?_
  refine K_then ?_
  refine J_cond rfl (fun h1 => ?_) (fun h1 => ?_)
  · refine J_region ?_
    refine L_v (opv_move rfl) rfl ?_
    first
      | refine L_v (opv_fieldAddr0 rfl) rfl ?_
      | refine L_v (opv_fieldAddr rfl) rfl ?_
    refine L_v (opv_load rfl (Rd.look rfl)) rfl ?_
    refine L_x rfl (opx_call0 (RWPut_any q s bad x.num 1 (by decide) hnum (by omega)) rfl rfl rfl) (fun _ _ => ?_)
    refine L_nil ?_
    refine K_block ?_
    have e : wrS s bad x = putS s bad x.num 1 := by unfold wrS; rw [if_pos h1]
    rw [e]
    exact K_end0 rfl () trivial rfl Ent.take
  · refine J_seq ?_
    refine J_region ?_
    first
      | refine L_v (opv_eql rfl rfl) rfl ?_
      | refine L_v (opv_eqlS rfl rfl) rfl ?_
      | refine L_v (opv_eqlNil rfl rfl) rfl ?_
      | refine L_v (opv_eqlB rfl rfl) rfl ?_
    refine L_v (opv_assign rfl) rfl ?_
    refine L_nil ?_
    refine K_then ?_
    refine J_cond rfl (fun h2 => ?_) (fun h2 => ?_)
    · refine J_region ?_
      refine L_v (opv_move rfl) rfl ?_
      first
        | refine L_v (opv_fieldAddr0 rfl) rfl ?_
        | refine L_v (opv_fieldAddr rfl) rfl ?_
      refine L_v (opv_load rfl (Rd.look rfl)) rfl ?_
      refine L_x rfl (opx_call0 (RWPut_any q s bad x.num 2 (by decide) hnum (by omega)) rfl rfl rfl) (fun _ _ => ?_)
      refine L_nil ?_
      refine K_block ?_
      have e : wrS s bad x = putS s bad x.num 2 := by unfold wrS; rw [if_neg h1, if_pos h2]
      rw [e]
      exact K_end0 rfl () trivial rfl Ent.take
    · refine J_seq ?_
      refine J_region ?_
      first
        | refine L_v (opv_eql rfl rfl) rfl ?_
        | refine L_v (opv_eqlS rfl rfl) rfl ?_
        | refine L_v (opv_eqlNil rfl rfl) rfl ?_
        | refine L_v (opv_eqlB rfl rfl) rfl ?_
      refine L_v (opv_assign rfl) rfl ?_
      refine L_nil ?_
      refine K_then ?_
      refine J_cond rfl (fun h3 => ?_) (fun h3 => ?_)
      · refine J_region ?_
        refine L_v (opv_move rfl) rfl ?_
        first
          | refine L_v (opv_fieldAddr0 rfl) rfl ?_
          | refine L_v (opv_fieldAddr rfl) rfl ?_
        refine L_v (opv_load rfl (Rd.look rfl)) rfl ?_
        refine L_x rfl (opx_call0 (RWPut_any q s bad x.num 4 (by decide) hnum (by omega)) rfl rfl rfl) (fun _ _ => ?_)
        refine L_nil ?_
        refine K_block ?_
        have e : wrS s bad x = putS s bad x.num 4 := by unfold wrS; rw [if_neg h1, if_neg h2, if_pos h3]
        rw [e]
        exact K_end0 rfl () trivial rfl Ent.take
      · refine J_seq ?_
        refine J_region ?_
        first
          | refine L_v (opv_eql rfl rfl) rfl ?_
          | refine L_v (opv_eqlS rfl rfl) rfl ?_
          | refine L_v (opv_eqlNil rfl rfl) rfl ?_
          | refine L_v (opv_eqlB rfl rfl) rfl ?_
        refine L_v (opv_assign rfl) rfl ?_
        refine L_nil ?_
        refine K_then ?_
        refine J_cond rfl (fun h4 => ?_) (fun h4 => ?_)
        · refine J_region ?_
          refine L_v (opv_move rfl) rfl ?_
          first
            | refine L_v (opv_fieldAddr0 rfl) rfl ?_
            | refine L_v (opv_fieldAddr rfl) rfl ?_
          refine L_v (opv_load rfl (Rd.look rfl)) rfl ?_
          refine L_x rfl (opx_call0 (RWText_any q s x.s bad (by omega) (by omega)) rfl rfl rfl) (fun _ _ => ?_)
          refine L_nil ?_
          refine K_block ?_
          have e : wrS s bad x = txtS s bad x.s := by unfold wrS; rw [if_neg h1, if_neg h2, if_neg h3, if_pos h4]
          rw [e]
          exact K_end0 rfl () trivial rfl Ent.take
        · refine J_seq ?_
          refine J_region ?_
          first
            | refine L_v (opv_eql rfl rfl) rfl ?_
            | refine L_v (opv_eqlS rfl rfl) rfl ?_
            | refine L_v (opv_eqlNil rfl rfl) rfl ?_
            | refine L_v (opv_eqlB rfl rfl) rfl ?_
          refine L_v (opv_assign rfl) rfl ?_
          refine L_nil ?_
          refine K_then ?_
          refine J_cond rfl (fun h5 => ?_) (fun h5 => ?_)
          · refine J_seq ?_
            refine J_region ?_
            refine L_v (opv_move rfl) rfl ?_
            refine L_v (opv_nilCheck rfl) rfl ?_
            first
              | refine L_v (opv_fieldAddr0 rfl) rfl ?_
              | refine L_v (opv_fieldAddr rfl) rfl ?_
            refine L_v (opv_load rfl (Rd.look rfl)) rfl ?_
            refine L_v ((opv_not rfl).as (v' := .bool (decide (bad = false))) (by cases bad <;> rfl)) rfl ?_
            refine L_nil ?_
            refine K_then ?_
            refine J_cond rfl (fun h6 => ?_) (fun h6 => ?_)
            · have hbf : bad = false := h6
              subst hbf
              refine J_region ?_
              refine L_v (opv_move rfl) rfl ?_
              first
                | refine L_v (opv_fieldAddr0 rfl) rfl ?_
                | refine L_v (opv_fieldAddr rfl) rfl ?_
              refine L_v (opv_load rfl (Rd.look rfl)) rfl ?_
              first
                | refine L_v (opv_fieldAddr0 rfl) rfl ?_
                | refine L_v (opv_fieldAddr rfl) rfl ?_
              refine L_v (opv_load rfl (Rd.look rfl)) rfl ?_
              refine L_x rfl (opx_call0 (RWBits_it W q s x ok hx (by omega)) rfl rfl rfl) (fun _ _ => ?_)
              refine L_nil ?_
              refine K_block ?_
              have e : wrS s false x = bitsS s false x.ws x.ls := by unfold wrS; rw [if_neg h1, if_neg h2, if_neg h3, if_neg h4, if_pos h5]
              rw [e]
              exact K_end0 rfl () trivial rfl Ent.take
            · refine J_skip ?_
              refine K_block ?_
              have hbt : bad = true := by simpa using h6
              subst hbt
              have e : wrS s true x = bitsS s true x.ws x.ls := by unfold wrS; rw [if_neg h1, if_neg h2, if_neg h3, if_neg h4, if_pos h5]
              rw [e]
              rw [bitsS_true]
              exact K_end0 rfl () trivial rfl Ent.take
          · refine J_skip ?_
            refine K_block ?_
            have e : wrS s bad x = (s, bad) := by unfold wrS; rw [if_neg h1, if_neg h2, if_neg h3, if_neg h4, if_neg h5]
            rw [e]
            exact K_end0 rfl () trivial rfl Ent.take


def few (xs : List It) : Prop := xs.length ≤ 40 ∧ ∀ x ∈ xs, Small x
noncomputable instance (xs : List It) : Decidable (few xs) := Classical.propDecidable _


theorem glt {α : Type} {L : List α} {j : Nat} {x : α} (h : L[j]? = some x) : j < L.length := by
  rcases Nat.lt_or_ge j L.length with h' | h'
  · exact h'
  · rw [List.getElem?_eq_none h'] at h; cases h

theorem few_spec (W : World) (A : Option Addr) (c : Nat) (xs : List It) (hR : RdS (old W) encIt 5 A xs) (hn : xs.length ≤ 9223372036854775807) : FSpec Try.prog 22 #[.slice A xs.length c] (old W) (fun _ : Unit => True) (fun _ => .bool (decide (few xs))) (fun _ => old W) := by
  refine FSpec.enter' Try.func22 rfl Try.ntmps22 rfl fun σ F => ?_
  refine J_seq ?_
  refine J_region ?_
  refine L_v (opv_assign rfl) rfl ?_
  refine L_nil ?_
  refine K_then ?_
  refine J_seq ?_
  refine J_seq ?_
  refine J_region ?_
  refine L_v (opv_move rfl) rfl ?_
  first
    | refine L_v (opv_lenL rfl) rfl ?_
    | refine L_v (opv_lenS rfl) rfl ?_
  refine L_v (opv_gtr rfl rfl) rfl ?_
  refine L_nil ?_
  refine K_then ?_
  refine J_cond rfl (fun h1 => ?_) (fun h1 => ?_)
  · refine J_seq ?_
    refine J_region ?_
    refine L_v (opv_assign rfl) rfl ?_
    refine L_nil ?_
    refine K_then ?_
    refine J_ret ?_
    refine K_then_ret ?_
    exact K_ret1 rfl rfl () trivial (congrArg Value.bool (decide_eq_false (fun n => by have := n.1; omega)).symm) Ent.take
  · refine J_skip ?_
    refine K_then ?_
    refine J_seq ?_
    refine J_seq ?_
    refine J_region ?_
    refine L_v (opv_assign rfl) rfl ?_
    refine L_nil ?_
    refine K_then ?_
    refine J_block ?_
    refine J_loop (X := Nat) (fun k => [(0, .slice A xs.length c), (3, .int .i64 k)]) (fun k => (sep (old W) (F))) (fun k => k ≤ xs.length ∧ ∀ j x, j < k → xs[j]? = some x → Small x) (fun k => xs.length - k) (0) ⟨Nat.zero_le _, fun j x h => absurd h (Nat.not_lt_zero _)⟩ ⟨rfl, rfl, trivial⟩ (Ent.refl _) (fun k hk => ?_)
    obtain ⟨hk1, hk2⟩ := hk
    refine J_seq ?_
    refine J_seq ?_
    refine J_region ?_
    refine L_v (opv_move rfl) rfl ?_
    refine L_v (opv_move rfl) rfl ?_
    first
      | refine L_v (opv_lenL rfl) rfl ?_
      | refine L_v (opv_lenS rfl) rfl ?_
    refine L_v (opv_lss rfl rfl) rfl ?_
    refine L_nil ?_
    refine K_then ?_
    refine J_cond rfl (fun h2 => ?_) (fun h2 => ?_)
    · have hkl : k < xs.length := by omega
      obtain ⟨x, hxx⟩ : ∃ x, xs[k]? = some x := ⟨_, List.getElem?_eq_getElem hkl⟩
      obtain ⟨b, o, rfl⟩ := hR.nonnil k hkl
      refine J_skip ?_
      refine K_then ?_
      refine J_seq ?_
      refine J_block ?_
      refine J_seq ?_
      refine J_region ?_
      refine L_v (opv_move rfl) rfl ?_
      refine L_v (opv_move rfl) rfl ?_
      first
        | refine L_v (opv_indexAddr rfl rfl (by omega)) rfl ?_
        | refine L_v (opv_indexAddrA rfl rfl (by omega)) rfl ?_
      first
        | refine L_v (opv_fieldAddr0 rfl) rfl ?_
        | refine L_v (opv_fieldAddr rfl) rfl ?_
      refine L_v (opv_load rfl (Rd.of_take (S := old W) (hR.rd b o rfl k x 2 _ hxx rfl))) rfl ?_
      first
        | refine L_v (opv_lenL rfl) rfl ?_
        | refine L_v (opv_lenS rfl) rfl ?_
      refine L_v (opv_gtr rfl rfl) rfl ?_
      refine L_v (opv_move rfl) rfl ?_
      refine L_gf rfl rfl (fun h3 => ?_) (fun h3 => ?_) (fun _ h => by cases h; rfl)
      · refine L_v (opv_move rfl) rfl ?_
        refine L_gf_on h3 rfl rfl ?_
        refine L_v (opv_move rfl) rfl ?_
        refine L_gf_on h3 rfl rfl ?_
        refine L_v (opv_indexAddr rfl rfl (by omega)) rfl ?_
        refine L_gf_on h3 rfl rfl ?_
        first
          | refine L_v (opv_fieldAddr0 rfl) rfl ?_
          | refine L_v (opv_fieldAddr rfl) rfl ?_
        refine L_gf_on h3 rfl rfl ?_
        refine L_v (opv_load rfl (Rd.of_take (S := old W) (hR.rd b o rfl k x 3 _ hxx rfl))) rfl ?_
        refine L_gf_on h3 rfl rfl ?_
        first
          | refine L_v (opv_lenL rfl) rfl ?_
          | refine L_v (opv_lenS rfl) rfl ?_
        refine L_gf_on h3 rfl rfl ?_
        refine L_v (opv_gtr rfl rfl) rfl ?_
        refine L_v (opv_pick_f rfl h3 rfl) rfl ?_
        refine L_v (opv_move rfl) rfl ?_
        refine L_gf rfl rfl (fun h4 => ?_) (fun h4 => ?_) (fun _ h => by cases h; rfl)
        · refine L_v (opv_move rfl) rfl ?_
          refine L_gf_on h4 rfl rfl ?_
          refine L_v (opv_move rfl) rfl ?_
          refine L_gf_on h4 rfl rfl ?_
          refine L_v (opv_indexAddr rfl rfl (by omega)) rfl ?_
          refine L_gf_on h4 rfl rfl ?_
          first
            | refine L_v (opv_fieldAddr0 rfl) rfl ?_
            | refine L_v (opv_fieldAddr rfl) rfl ?_
          refine L_gf_on h4 rfl rfl ?_
          refine L_v (opv_load rfl (Rd.of_take (S := old W) (hR.rd b o rfl k x 4 _ hxx rfl))) rfl ?_
          refine L_gf_on h4 rfl rfl ?_
          first
            | refine L_v (opv_lenL rfl) rfl ?_
            | refine L_v (opv_lenS rfl) rfl ?_
          refine L_gf_on h4 rfl rfl ?_
          refine L_v (opv_gtr rfl rfl) rfl ?_
          refine L_v (opv_pick_f rfl h4 rfl) rfl ?_
          refine L_nil ?_
          refine K_then ?_
          refine J_cond rfl (fun h5 => ?_) (fun h5 => ?_)
          · refine J_seq ?_
            refine J_region ?_
            refine L_v (opv_assign rfl) rfl ?_
            refine L_nil ?_
            refine K_then ?_
            refine J_ret ?_
            refine K_block_ret ?_
            refine K_then_ret ?_
            refine K_then_ret ?_
            refine K_block_ret ?_
            refine K_then_ret ?_
            exact K_ret1 rfl rfl () trivial (congrArg Value.bool (decide_eq_false (fun n => by have := n.2 x (List.mem_of_getElem? hxx); have h1 := this.s; have h2 := this.w; have h3 := this.l; omega)).symm) Ent.take
          · refine J_skip ?_
            refine K_block ?_
            refine K_then ?_
            refine J_region ?_
            refine L_v (opv_move rfl) rfl ?_
            first
              | refine L_v (opv_add64 rfl rfl (by omega)) rfl ?_
              | refine L_v (opv_addS rfl rfl (by omega)) rfl ?_
              | refine L_v (opv_add rfl rfl) rfl ?_
            refine L_v (opv_assign rfl) rfl ?_
            refine L_nil ?_
            exact K_loop (k + 1) ⟨by omega, fun j y hj hy => by rcases (show j < k ∨ j = k by omega) with g | rfl; exact hk2 j y g hy; rw [hxx] at hy; cases hy; exact ⟨by omega, by omega, by omega⟩⟩ (by omega) ⟨rfl, rfl, trivial⟩ (Ent.refl _)
        · refine L_gf_off h4 rfl rfl ?_ (fun _ h => by cases h; rfl)
          refine L_gf_off h4 rfl rfl ?_ (fun _ h => by cases h; rfl)
          refine L_gf_off h4 rfl rfl ?_ (fun _ h => by cases h; rfl)
          refine L_gf_off h4 rfl rfl ?_ (fun _ h => by cases h; rfl)
          refine L_gf_off h4 rfl rfl ?_ (fun _ h => by cases h; rfl)
          refine L_gf_off h4 rfl rfl ?_ (fun _ h => by cases h; rfl)
          refine L_v (opv_pick_t rfl h4 rfl) rfl ?_
          refine L_nil ?_
          refine K_then ?_
          refine J_cond_true rfl ?_
          refine J_seq ?_
          refine J_region ?_
          refine L_v (opv_assign rfl) rfl ?_
          refine L_nil ?_
          refine K_then ?_
          refine J_ret ?_
          refine K_block_ret ?_
          refine K_then_ret ?_
          refine K_then_ret ?_
          refine K_block_ret ?_
          refine K_then_ret ?_
          exact K_ret1 rfl rfl () trivial (congrArg Value.bool (decide_eq_false (fun n => by have := n.2 x (List.mem_of_getElem? hxx); have h1 := this.s; have h2 := this.w; have h3 := this.l; omega)).symm) Ent.take
      · refine L_gf_off h3 rfl rfl ?_ (fun _ h => by cases h; rfl)
        refine L_gf_off h3 rfl rfl ?_ (fun _ h => by cases h; rfl)
        refine L_gf_off h3 rfl rfl ?_ (fun _ h => by cases h; rfl)
        refine L_gf_off h3 rfl rfl ?_ (fun _ h => by cases h; rfl)
        refine L_gf_off h3 rfl rfl ?_ (fun _ h => by cases h; rfl)
        refine L_gf_off h3 rfl rfl ?_ (fun _ h => by cases h; rfl)
        refine L_v (opv_pick_t rfl h3 rfl) rfl ?_
        refine L_v (opv_move rfl) rfl ?_
        refine L_gskip rfl rfl rfl ?_ (fun _ h => by cases h; rfl)
        refine L_gskip rfl rfl rfl ?_ (fun _ h => by cases h; rfl)
        refine L_gskip rfl rfl rfl ?_ (fun _ h => by cases h; rfl)
        refine L_gskip rfl rfl rfl ?_ (fun _ h => by cases h; rfl)
        refine L_gskip rfl rfl rfl ?_ (fun _ h => by cases h; rfl)
        refine L_gskip rfl rfl rfl ?_ (fun _ h => by cases h; rfl)
        refine L_gskip rfl rfl rfl ?_ (fun _ h => by cases h; rfl)
        first
          | refine L_v (opv_pick_tt rfl rfl) rfl ?_
          | refine L_v (opv_pick_ff rfl rfl) rfl ?_
          | refine L_v (opv_pick rfl rfl rfl) rfl ?_
        refine L_nil ?_
        refine K_then ?_
        refine J_cond_true rfl ?_
        refine J_seq ?_
        refine J_region ?_
        refine L_v (opv_assign rfl) rfl ?_
        refine L_nil ?_
        refine K_then ?_
        refine J_ret ?_
        refine K_block_ret ?_
        refine K_then_ret ?_
        refine K_then_ret ?_
        refine K_block_ret ?_
        refine K_then_ret ?_
        exact K_ret1 rfl rfl () trivial (congrArg Value.bool (decide_eq_false (fun n => by have := n.2 x (List.mem_of_getElem? hxx); have h1 := this.s; have h2 := this.w; have h3 := this.l; omega)).symm) Ent.take
    · refine J_exit ?_
      refine K_then_exit ?_
      refine K_then_exit ?_
      refine K_block_here ?_
      refine K_then ?_
      refine J_seq ?_
      refine J_region ?_
      refine L_v (opv_assign rfl) rfl ?_
      refine L_nil ?_
      refine K_then ?_
      refine J_ret ?_
      exact K_ret1 rfl rfl () trivial (congrArg Value.bool (decide_eq_true (show few xs from ⟨by omega, fun x hx => by obtain ⟨j, hj⟩ := List.getElem?_of_mem hx; exact hk2 j x (by have := glt hj; omega) hj⟩)).symm) Ent.take

theorem BW_no (W : World) (A : Option Addr) (c : Nat) (xs : List It) (hR : RdS (old W) encIt 5 A xs) (hn : xs.length ≤ 9223372036854775807) (h : ¬ few xs) : FSpec Try.prog 6 #[.slice A xs.length c] (old W) (fun _ : Unit => True) (fun _ => .bool true) (fun _ => old W) := by
  refine FSpec.enter' Try.func6 rfl Try.ntmps6 rfl fun σ F => ?_
  refine J_seq ?_
  refine J_region ?_
  refine L_v (opv_assign rfl) rfl ?_
  refine L_nil ?_
  refine K_then ?_
  refine J_seq ?_
  refine J_seq ?_
  refine J_region ?_
  refine L_v (opv_move rfl) rfl ?_
  refine L_x rfl (opx_call0 (few_spec W A c xs hR hn) rfl rfl rfl) (fun _ _ => ?_)
  rw [decide_eq_false h]
  refine L_v (opv_not rfl) rfl ?_
  refine L_nil ?_
  refine K_then ?_
  refine J_cond_true rfl ?_
  refine J_seq ?_
  refine J_region ?_
  refine L_x rfl (opx_call0 (awake_spec) rfl rfl rfl) (fun _ _ => ?_)
  refine L_emp ?_
  refine L_v (opv_assign rfl) rfl ?_
  refine L_nil ?_
  refine K_then ?_
  refine J_ret ?_
  refine K_then_ret ?_
  exact K_ret1 rfl rfl () trivial (rfl) Ent.take

set_option maxHeartbeats 600000 in
theorem BW_ok (W : World) (A : Option Addr) (c : Nat) (xs : List It) (hR : RdS (old W) encIt 5 A xs) (hn : xs.length ≤ 9223372036854775807) (okx : ∀ x ∈ xs, okIt W x) (h : few xs) : FSpec Try.prog 6 #[.slice A xs.length c] (old W) (fun _ : Unit => True) (fun _ => .bool true) (fun _ => old W) := by
  have hx40 := h.1
  refine FSpec.enter' Try.func6 rfl Try.ntmps6 rfl fun σ F => ?_
  refine J_seq ?_
  refine J_region ?_
  refine L_v (opv_assign rfl) rfl ?_
  refine L_nil ?_
  refine K_then ?_
  refine J_seq ?_
  refine J_seq ?_
  refine J_region ?_
  refine L_v (opv_move rfl) rfl ?_
  refine L_x rfl (opx_call0 (few_spec W A c xs hR hn) rfl rfl rfl) (fun _ _ => ?_)
  rw [decide_eq_true h]
  refine L_v (opv_not rfl) rfl ?_
  refine L_nil ?_
  refine K_then ?_
  refine J_cond_false rfl ?_
  refine J_skip ?_
  refine K_then ?_
  refine J_seq ?_
  refine J_region ?_
  refine L_v (opv_build rfl) rfl ?_
  refine L_x rfl (opx_box rfl rfl) (fun p _ => ?_)
  refine L_v (opv_assign rfl) rfl ?_
  refine L_nil ?_
  refine K_then ?_
  refine J_seq ?_
  refine J_region ?_
  refine L_v (opv_build rfl) rfl ?_
  refine L_x rfl (opx_box rfl rfl) (fun q _ => ?_)
  refine L_v (opv_assign rfl) rfl ?_
  refine L_nil ?_
  refine K_then ?_
  refine J_seq ?_
  refine J_seq ?_
  refine J_imp (sep (WrP p (bytesL []) false) (sep (cel q [.string (bytesL []), .bool false] 45) (sep (old W) (F)))) (Ent.trans (Ent.take (Q := (sep (cel p [.slice none 0 0, .bool false] 42) (sep (cel q [.string ⟨#[]⟩, .bool false] 45) (sep (old W) (F)))))) WrP_new) ?_
  refine J_region ?_
  refine L_v (opv_assign rfl) rfl ?_
  refine L_nil ?_
  refine K_then ?_
  refine J_block ?_
  refine J_loop (X := Nat × ByteArray × Bool) (fun y => [(0, .slice A xs.length c), (3, .pointer (some (ad p 0))), (4, .pointer (some (ad q 0))), (5, .int .i64 y.1)]) (fun y => (sep (WrP p y.2.1 y.2.2) (sep (cel q [.string y.2.1, .bool y.2.2] 45) (sep (old W) (F))))) (fun y => y.1 ≤ xs.length ∧ y.2.1.size ≤ 500 * y.1) (fun y => xs.length - y.1) ((0, bytesL [], false)) ⟨Nat.zero_le _, Nat.le_refl _⟩ ⟨rfl, rfl, rfl, rfl, trivial⟩ (Ent.take (Q := (sep (WrP p (bytesL []) false) (sep (cel q [.string (bytesL []), .bool false] 45) (sep (old W) (F)))))) (fun y hy => ?_)
  obtain ⟨hk, hsz⟩ := hy
  refine J_seq ?_
  refine J_seq ?_
  refine J_region ?_
  refine L_v (opv_move rfl) rfl ?_
  refine L_v (opv_move rfl) rfl ?_
  first
    | refine L_v (opv_lenL rfl) rfl ?_
    | refine L_v (opv_lenS rfl) rfl ?_
  refine L_v (opv_lss rfl rfl) rfl ?_
  refine L_nil ?_
  refine K_then ?_
  refine J_cond rfl (fun h1 => ?_) (fun h1 => ?_)
  · have hkl : y.1 < xs.length := by omega
    obtain ⟨x, hxx⟩ : ∃ x, xs[y.1]? = some x := ⟨_, List.getElem?_eq_getElem hkl⟩
    obtain ⟨b, o, rfl⟩ := hR.nonnil y.1 hkl
    have hxm := List.mem_of_getElem? hxx
    refine J_skip ?_
    refine K_then ?_
    refine J_seq ?_
    refine J_block ?_
    refine J_seq ?_
    refine J_region ?_
    refine L_v (opv_move rfl) rfl ?_
    refine L_v (opv_move rfl) rfl ?_
    refine L_v (opv_move rfl) rfl ?_
    first
      | refine L_v (opv_indexAddr rfl rfl (by omega)) rfl ?_
      | refine L_v (opv_indexAddrA rfl rfl (by omega)) rfl ?_
    refine L_v (opv_loadN (vs := [.int .i64 x.ask, .int .i64 x.num, .string x.s, .slice x.wa x.wl x.wc, .slice x.la x.ll x.lc]) rfl rfl (fun j u hj => Rd.of_take (S := old W) (hR.rd b o rfl y.1 x j u hxx hj))) rfl ?_
    refine L_x rfl (opx_call0 (write_spec W p y.2.1 y.2.2 x (okx x hxm) (h.2 x hxm) (by omega)) rfl rfl rfl) (fun _ _ => ?_)
    refine L_nil ?_
    refine K_then ?_
    refine J_seq ?_
    refine J_region ?_
    refine L_v (opv_move rfl) rfl ?_
    refine L_v (opv_move rfl) rfl ?_
    refine L_v (opv_move rfl) rfl ?_
    first
      | refine L_v (opv_indexAddr rfl rfl (by omega)) rfl ?_
      | refine L_v (opv_indexAddrA rfl rfl (by omega)) rfl ?_
    refine L_v (opv_loadN (vs := [.int .i64 x.ask, .int .i64 x.num, .string x.s, .slice x.wa x.wl x.wc, .slice x.la x.ll x.lc]) rfl rfl (fun j u hj => Rd.of_take (S := old W) (hR.rd b o rfl y.1 x j u hxx hj))) rfl ?_
    refine L_x rfl (opx_call0 (plain_spec W q y.2.1 y.2.2 x (okx x hxm) (h.2 x hxm) (by omega)) rfl rfl rfl) (fun _ _ => ?_)
    refine L_nil ?_
    refine K_then ?_
    refine J_seq ?_
    refine J_region ?_
    refine L_v (opv_move rfl) rfl ?_
    refine L_x rfl (opx_call0 (Bytes_any p (wrS y.2.1 y.2.2 x).1 (wrS y.2.1 y.2.2 x).2) rfl rfl rfl) (fun _ _ => ?_)
    refine L_v (opv_move rfl) rfl ?_
    refine L_v (opv_extract rfl rfl) rfl ?_
    refine L_v (opv_extract rfl rfl) rfl ?_
    refine L_v (opv_assign rfl) rfl ?_
    refine L_v (opv_assign rfl) rfl ?_
    refine L_nil ?_
    refine K_then ?_
    refine J_seq ?_
    refine J_region ?_
    refine L_v (opv_move rfl) rfl ?_
    refine L_x rfl (opx_call0 (RWBytes_any q (wrS y.2.1 y.2.2 x).1 (wrS y.2.1 y.2.2 x).2) rfl rfl rfl) (fun _ _ => ?_)
    refine L_v (opv_move rfl) rfl ?_
    refine L_v (opv_extract rfl rfl) rfl ?_
    refine L_v (opv_extract rfl rfl) rfl ?_
    refine L_v (opv_assign rfl) rfl ?_
    refine L_v (opv_assign rfl) rfl ?_
    refine L_nil ?_
    refine K_then ?_
    refine J_seq ?_
    refine J_region ?_
    refine L_v (opv_move rfl) rfl ?_
    refine L_v (opv_move rfl) rfl ?_
    refine L_v ((opv_neqS rfl rfl).bool_f (fun n => n rfl)) rfl ?_
    refine L_v (opv_move rfl) rfl ?_
    refine L_gon rfl rfl rfl ?_
    refine L_v (opv_move rfl) rfl ?_
    refine L_gon rfl rfl rfl ?_
    refine L_v (opv_move rfl) rfl ?_
    refine L_gon rfl rfl rfl ?_
    refine L_v ((opv_neq rfl rfl).bool_f (fun n => n rfl)) rfl ?_
    first
      | refine L_v (opv_pick_tt rfl rfl) rfl ?_
      | refine L_v (opv_pick_ff rfl rfl) rfl ?_
      | refine L_v (opv_pick rfl rfl rfl) rfl ?_
    refine L_nil ?_
    refine K_then ?_
    refine J_cond_false rfl ?_
    refine J_skip ?_
    refine K_block ?_
    refine K_then ?_
    refine J_region ?_
    refine L_v (opv_move rfl) rfl ?_
    first
      | refine L_v (opv_add64 rfl rfl (by omega)) rfl ?_
      | refine L_v (opv_addS rfl rfl (by omega)) rfl ?_
      | refine L_v (opv_add rfl rfl) rfl ?_
    refine L_v (opv_assign rfl) rfl ?_
    refine L_nil ?_
    have hws := wrS_sz (s := y.2.1) (bad := y.2.2) (h.2 x hxm)
    exact K_loop ((y.1 + 1, (wrS y.2.1 y.2.2 x).1, (wrS y.2.1 y.2.2 x).2)) ⟨by dsimp only; omega, by dsimp only; omega⟩ (by dsimp only; omega) ⟨rfl, rfl, rfl, rfl, trivial⟩ Ent.take
  · refine J_exit ?_
    refine K_then_exit ?_
    refine K_then_exit ?_
    refine K_block_here ?_
    refine K_then ?_
    refine J_seq ?_
    refine J_region ?_
    refine L_x rfl (opx_call0 (awake_spec) rfl rfl rfl) (fun _ _ => ?_)
    refine L_emp ?_
    refine L_v (opv_assign rfl) rfl ?_
    refine L_nil ?_
    refine K_then ?_
    refine J_ret ?_
    exact K_ret1 rfl rfl () trivial (rfl) Ent.take


theorem BitsWrites_law (W : World) (A : Option Addr) (len c : Nat) (xs : List It) (ok : ∀ x ∈ xs, okIt W x) (h : ArrIn W encIt 5 A len xs) (hl : len ≤ c) (hc : c ≤ maxLen) : FSpec Try.prog 6 #[.slice A len c] (old W) (fun _ : Unit => True) (fun _ => .bool true) (fun _ => old W) := by
  have e := h.1
  subst e
  have hn : xs.length ≤ 9223372036854775807 := by unfold maxLen at hc; omega
  by_cases hb : few xs
  · exact BW_ok W A c xs (RdS.old h) hn ok hb
  · exact BW_no W A c xs (RdS.old h) hn hb

end Go.Proofs.Ytdmlcnecildliaa
namespace Go.Proofs.Ytdmlcnecildliaa.bitsWrites
open Go.ChangeShapes Go.WideShapes Go.ChangeAt Go.RowKit Go.SLA
open Go.ChangeMaps (open_string shut_string)
set_option linter.unusedVariables false
theorem own : ownKnob Try.prog.godebug = none := by kernel_rfl
theorem laidOut : laidOutB Try.prog = true := by kernel_rfl
set_option maxRecDepth 100000 in
theorem lifted (os : Os) (started : os.Started) (H : Type) (enc : TypeId × Value → H) :
    ReturnsInHanded {} Try.checked os 6 .any (Rows.bitsWritesSpec.pre6 enc Try.prog Try.f6 Rows.bitsWritesRow.domain false) (Rows.bitsWritesSpec.post enc Try.prog Try.f6 false true false false) := by
  refine returnsInHanded_of_change_sized (C := Try.checked) own started (by kernel_rfl) Try.func6
    (ChangeSpec.witness6 (enc := enc) (C := Try.checked) false ⟨#[], #[.slice none 0 0], []⟩ 8 (by kernel_rfl) (by kernel_rfl) (by kernel_rfl) (by kernel_rfl)) ?_
  intro W base args ds gs before hval0 hW hcnd hsz0 _
  have hsz : (DataW.weightsEach Try.prog (Try.f6.params.toList ++ Rows.bitsWritesSpec.plain.varTypes Try.prog) (ds ++ gs)).all (· ≤ reachBytes) = true := hsz0
  have hval : ∀ (j : Nat) t v, Try.f6.params[j]? = some t → args[j]? = some v → Value.okWide Try.prog W .any base t v := hval0
  have hW' := hW
  obtain ⟨p, q, hA0, hV, rfl, hfz, hnd⟩ := hW
  have hA : DataW.TrodAll enc Try.prog W 0 (fun _ => true) true Try.f6.params.toList args.toList ds p := hA0
  rw [Try.params6] at hA hval hsz
  obtain ⟨v0, vs0, d0, ds0, p0, q0, hargs, rfl, rfl, h0, r0⟩ := trodAll_cons hA
  obtain ⟨rfl, rfl, rfl⟩ := trodAll_nil r0
  obtain rfl : args = #[v0] := by cases args; simp_all
  obtain ⟨rfl, rfl⟩ := trodVars_none hV
  have k0 := h0
  have lt0 : ∀ x ∈ p0, x.block < W.heap.size := by obtain ⟨m, hm⟩ := k0; exact DataW.trod_lt m _ _ _ hm
  obtain ⟨A0, len0, cap0, xs0, rfl, hl0, hc0, harr0, hok0⟩ := open_arrG (en := encIt) (ok := okIt W) (m := 5) Try.underlying38 (by kernel_rfl) (by decide) encIt_len (fun n cs y hh => dec_it Try.underlying49 (by kernel_rfl) rfl (by kernel_rfl) Try.underlying3 Try.underlying3 Try.underlying9 Try.underlying47 Try.underlying47 Try.underlying3 (by kernel_rfl) hh) (hval 0 38 v0 rfl rfl) h0
  clear hA0 hval0 hsz0 hsz
  refine (FSpec.law (BitsWrites_law W A0 len0 cap0 xs0 hok0 harr0 hl0 hc0)).mono fun e W' ⟨he, bel⟩ => ?_
  subst he
  exact ⟨_, rfl, _, _, _, [], _, [], hW', trodAll_mk1 (shut_bool Try.underlying4 _), (trodAll_cons_mk (Below.trod laidOut (by kernel_rfl) (of_decide_eq_true (by kernel_rfl)) k0 bel lt0) trodAll_mk0), rfl, bel.frame _, fun h => by cases h⟩
theorem over : Rows.bitsWritesRow.holds Try.pinned (OpenSpec.ofChange Rows.bitsWritesSpec) :=
  OpenClaim.holds_of_wide 6 Try.f6 rfl rfl rfl rfl rfl rfl rfl ⟨rfl, rfl, rfl, rfl, rfl⟩ rfl rfl rfl rfl rfl (by kernel_rfl) Try.func6 (by kernel_rfl)
    (of_decide_eq_true (by kernel_rfl)) (by unfold Func.isWrapper; first | (rw [if_pos (by decide +kernel)]; kernel_rfl) | (rw [if_neg (by decide +kernel)]; exact ⟨rfl, rfl⟩))
    (fun os started H enc _ => lifted os started H enc)
end Go.Proofs.Ytdmlcnecildliaa.bitsWrites
namespace Go.Proofs.Ytdmlcnecildliaa
theorem bitsWrites_holds : Rows.BitsWritesSaid := bitsWrites.over
#print axioms bitsWrites_holds
end Go.Proofs.Ytdmlcnecildliaa
namespace Go.Proofs.Ytdmlcnecildliaa
open Go.SLA
end Go.Proofs.Ytdmlcnecildliaa
