/- Contracts of ipv4.Encode and of its reference, each proved by a walk over its code; they are used by the texts that import this one. -/
import Derived.Test.YtjpbpfihacfndaaFj
import Derived.Test.YtjpbpfihacfndaaZ
import Derived.Test.YtjpbpfihacfndaaBh
import Derived.Test.YtjpbpfihacfndaaH
namespace Go.Proofs.Ytjpbpfihacfndaa
open Go.SLA
set_option maxRecDepth 100000
set_option linter.unusedVariables false
set_option linter.unusedSimpArgs false
attribute [local irreducible] J L K QL Rg FSpec OpV OpX Rd Back

/-- 1 of true. -/
def flagN (b : Bool) : Int := if b = true then 1 else 0
/-- May a packet's numbers be? -/
def fieldsB (p : Pk) : Prop := (0 ≤ p.id ∧ p.id ≤ 65535) ∧ (0 ≤ p.off ∧ p.off ≤ 8191) ∧ (0 ≤ p.ttl ∧ p.ttl ≤ 255) ∧ (0 ≤ p.proto ∧ p.proto ≤ 255)
instance (p : Pk) : Decidable (fieldsB p) := inferInstanceAs (Decidable (_ ∧ _))
def partN (p : Pk) : Nat := (if p.more = true then 8192 else 0) + p.off.toNat
/-- What stands ahead of a packet's sum, and behind it. -/
def hA (p : Pk) (n : Nat) : ByteArray := be 69 1 ++ be 0 1 ++ be n 2 ++ be p.id.toNat 2 ++ be (partN p) 2 ++ be p.ttl.toNat 1 ++ be p.proto.toNat 1
def hB (p : Pk) : ByteArray := bytesL p.src ++ bytesL p.dst
def h20 (p : Pk) (n sum : Nat) : ByteArray := hA p n ++ be sum 2 ++ hB p
theorem hB_eq (p : Pk) : bytesL [p.s0, p.s1, p.s2, p.s3] ++ bytesL [p.d0, p.d1, p.d2, p.d3] = hB p := rfl
/-- A packet as bytes. -/
def pkt (p : Pk) : ByteArray := h20 p (20 + p.data.size) (ones (h20 p (20 + p.data.size) 0)) ++ p.data
theorem hA_size (p : Pk) (n : Nat) : (hA p n).size = 10 := by unfold hA; simp only [ByteArray.size_append, be_size]
theorem hB_size (p : Pk) : (hB p).size = 8 := by unfold hB; rw [ByteArray.size_append, bytesL_size, bytesL_size]; rfl
theorem h20_size (p : Pk) (n m : Nat) : (h20 p n m).size = 20 := by unfold h20; rw [ByteArray.size_append, ByteArray.size_append, hA_size, hB_size, be_size]
theorem pkt_size (p : Pk) : (pkt p).size = 20 + p.data.size := by unfold pkt; rw [ByteArray.size_append, h20_size]
theorem h20_a (p : Pk) (n m : Nat) : (h20 p n m).extract 0 10 = hA p n := by
  unfold h20
  rw [ByteArray.append_assoc]
  exact ByteArray.extract_append_eq_left (by rw [hA_size])
theorem h20_b (p : Pk) (n m : Nat) : (h20 p n m).extract 12 (h20 p n m).size = hB p := by
  have e : (hA p n ++ be m 2).size = 12 := by rw [ByteArray.size_append, hA_size, be_size]
  rw [h20_size]
  unfold h20
  exact ByteArray.extract_append_eq_right (by rw [e]) (by rw [e, hB_size])
theorem okPk.i {p : Pk} (h : okPk p) : (-9223372036854775808 ≤ p.id ∧ p.id ≤ 9223372036854775807) ∧ (-9223372036854775808 ≤ p.off ∧ p.off ≤ 9223372036854775807) ∧ (-9223372036854775808 ≤ p.ttl ∧ p.ttl ≤ 9223372036854775807) ∧ (-9223372036854775808 ≤ p.proto ∧ p.proto ≤ 9223372036854775807) :=
  ⟨wf64 h.1, wf64 h.2.1, wf64 h.2.2.1, wf64 h.2.2.2.1⟩
theorem fitB_iff {m : Int} {w : Nat} (hw : w ≤ 64) : fitB m w ↔ 0 ≤ m ∧ m < 2 ^ w := by
  unfold fitB
  rw [Int.toNat_natCast, Nat.min_eq_left hw]
  have hp : (0 : Int) < 2 ^ w := Int.pow_pos (by decide)
  constructor
  · rintro ⟨h0, h1⟩
    refine ⟨h0, ?_⟩
    rcases Int.lt_or_le m (2 ^ w) with h | h
    · exact h
    · have h3 : 1 ≤ m / 2 ^ w := by rw [Int.le_ediv_iff_mul_le hp]; omega
      omega
  · rintro ⟨h0, h1⟩
    exact ⟨h0, Int.ediv_eq_zero_of_lt h0 h1⟩
theorem not3 (f o : Int) : ¬ (sumW [2, 1, 13] = 0 ∨ ([2, 1, 13] : List Int).length ≠ ([0, f, o] : List Int).length) := by
  rintro (h | h)
  · exact absurd h (by decide)
  · exact h rfl
theorem bits3_fit (s : ByteArray) (p : Pk) (h : 0 ≤ p.off ∧ p.off ≤ 8191) : bitsS s false [2, 1, 13] [0, flagN p.more, p.off] = (s ++ be (partN p) 2, false) := by
  have hf : flagN p.more = 0 ∨ flagN p.more = 1 := by unfold flagN; split <;> simp
  have h0 : fitB 0 (Int.toNat 2) := (fitB_iff (by decide)).2 ⟨by decide, by decide⟩
  have h1 : fitB (flagN p.more) (Int.toNat 1) := (fitB_iff (by decide)).2 ⟨by omega, by show flagN p.more < 2 ^ 1; have : (2 : Int) ^ 1 = 2 := (by decide); omega⟩
  have h2 : fitB p.off (Int.toNat 13) := (fitB_iff (by decide)).2 ⟨by omega, by show p.off < 2 ^ 13; have : (2 : Int) ^ 13 = 8192 := (by decide); omega⟩
  have hp : pack 0 [2, 1, 13] [0, flagN p.more, p.off] = some (partN p) := by
    rw [pack, if_pos h0, pack, if_pos h1, pack, if_pos h2]
    show some (((0 * 2 ^ Int.toNat 2 + Int.toNat 0) * 2 ^ Int.toNat 1 + (flagN p.more).toNat) * 2 ^ Int.toNat 13 + p.off.toNat) = _
    refine congrArg some ?_
    unfold partN flagN
    have e1 : 2 ^ Int.toNat 2 = 4 := rfl
    have e2 : 2 ^ Int.toNat 1 = 2 := rfl
    have e3 : 2 ^ Int.toNat 13 = 8192 := rfl
    rw [e1, e2, e3]
    split
    · have e4 : Int.toNat 1 = 1 := rfl
      rw [e4]; rfl
    · have e4 : Int.toNat 0 = 0 := rfl
      rw [e4]
  unfold bitsS
  rw [if_neg (by decide), if_neg (not3 _ _), hp]
  show putS s false (partN p : Nat) 2 = _
  have hpn : partN p ≤ 16383 := by unfold partN; split <;> omega
  exact putS_fit rfl (by show partN p / 65536 = 0; omega) (by decide)
theorem bits3_bad (s : ByteArray) (p : Pk) (h : ¬ (0 ≤ p.off ∧ p.off ≤ 8191)) : (bitsS s false [2, 1, 13] [0, flagN p.more, p.off]).2 = true := by
  have hf : flagN p.more = 0 ∨ flagN p.more = 1 := by unfold flagN; split <;> simp
  have h0 : fitB 0 (Int.toNat 2) := (fitB_iff (by decide)).2 ⟨by decide, by decide⟩
  have h1 : fitB (flagN p.more) (Int.toNat 1) := (fitB_iff (by decide)).2 ⟨by omega, by show flagN p.more < 2 ^ 1; have : (2 : Int) ^ 1 = 2 := (by decide); omega⟩
  have h2 : ¬ fitB p.off (Int.toNat 13) := fun n => h (by have := (fitB_iff (by decide)).1 n; have e : (2 : Int) ^ (Int.toNat 13) = 8192 := by decide
                                                          omega)
  have hp : pack 0 [2, 1, 13] [0, flagN p.more, p.off] = none := by rw [pack, if_pos h0, pack, if_pos h1, pack, if_neg h2]
  unfold bitsS
  rw [if_neg (by decide), if_neg (not3 _ _), hp]
theorem bitsS_true (s : ByteArray) (ws ls : List Int) : bitsS s true ws ls = (s, true) := by unfold bitsS; rw [if_pos rfl]
theorem putS_true (s : ByteArray) (m : Int) (c : Nat) : putS s true m c = (s, true) := by unfold putS; rw [if_pos rfl]
/-- A writer behind all numbers of a packet's head. -/
def chain (s : ByteArray) (p : Pk) : ByteArray × Bool :=
  let a := putS s false p.id 2
  let b := bitsS a.1 a.2 [2, 1, 13] [0, flagN p.more, p.off]
  let c := putS b.1 b.2 p.ttl 1
  let d := putS c.1 c.2 p.proto 1
  putS d.1 d.2 0 2
theorem chain_bad {s : ByteArray} {p : Pk} (h : ¬ fieldsB p) : (chain s p).2 = true := by
  unfold chain
  dsimp only
  by_cases h1 : fitB p.id (8 * 2)
  · have e1 : putS s false p.id 2 = (s ++ be p.id.toNat 2, false) := by unfold putS; rw [if_neg (by decide), if_pos h1]
    rw [e1]
    dsimp only
    by_cases h2 : 0 ≤ p.off ∧ p.off ≤ 8191
    · rw [bits3_fit _ p h2]
      dsimp only
      by_cases h3 : fitB p.ttl (8 * 1)
      · have e3 : ∀ s, putS s false p.ttl 1 = (s ++ be p.ttl.toNat 1, false) := fun s => by unfold putS; rw [if_neg (by decide), if_pos h3]
        rw [e3]
        dsimp only
        by_cases h4 : fitB p.proto (8 * 1)
        · exfalso
          apply h
          have a1 := (fitB_iff (by decide)).1 h1
          have a3 := (fitB_iff (by decide)).1 h3
          have a4 := (fitB_iff (by decide)).1 h4
          have e16 : (2 : Int) ^ (8 * 2) = 65536 := by decide
          have e8 : (2 : Int) ^ (8 * 1) = 256 := by decide
          unfold fieldsB
          omega
        · have e4 : ∀ s, putS s false p.proto 1 = (s, true) := fun s => by unfold putS; rw [if_neg (by decide), if_neg h4]
          rw [e4]
          dsimp only
          rw [putS_true]
      · have e3 : ∀ s, putS s false p.ttl 1 = (s, true) := fun s => by unfold putS; rw [if_neg (by decide), if_neg h3]
        rw [e3]
        dsimp only
        rw [putS_true]
        dsimp only
        rw [putS_true]
    · have h3 := bits3_bad (s ++ be p.id.toNat 2) p h2
      generalize bitsS (s ++ be p.id.toNat 2) false [2, 1, 13] [0, flagN p.more, p.off] = q at h3
      obtain ⟨q1, q2⟩ := q
      dsimp only at h3
      subst h3
      dsimp only
      rw [putS_true]
      dsimp only
      rw [putS_true]
      dsimp only
      rw [putS_true]
  · have e1 : putS s false p.id 2 = (s, true) := by unfold putS; rw [if_neg (by decide), if_neg h1]
    rw [e1]
    dsimp only
    rw [bitsS_true]
    dsimp only
    rw [putS_true]
    dsimp only
    rw [putS_true]
    dsimp only
    rw [putS_true]
theorem bitsS_size (s : ByteArray) (bad : Bool) (p : Pk) : (bitsS s bad [2, 1, 13] [0, flagN p.more, p.off]).1.size ≤ s.size + 2 := by
  cases bad with
  | true => rw [bitsS_true]; exact Nat.le_add_right _ _
  | false =>
    by_cases h : 0 ≤ p.off ∧ p.off ≤ 8191
    · rw [bits3_fit s p h]; show (s ++ be (partN p) 2).size ≤ _; rw [ByteArray.size_append, be_size]; exact Nat.le_refl _
    · unfold bitsS
      rw [if_neg (by decide), if_neg (not3 _ _)]
      split
      · exact Nat.le_add_right _ _
      · exact putS_size _ _ _ _


theorem Bits3_any (p b1 b2 : Nat) (s : ByteArray) (bad : Bool) (pk : Pk) (hp : okPk pk) (hs : s.size ≤ 1099511627776) : FSpec Try.prog 61 #[.pointer (some (ad p 0)), .slice (some (ad b1 0)) 3 3, .slice (some (ad b2 0)) 3 3] (sep (WrP p s bad) ((sep (cel b2 [.int .i64 0, .int .i64 (flagN pk.more), .int .i64 pk.off] 3) (cel b1 [.int .i64 2, .int .i64 1, .int .i64 13] 3)))) (fun _ : Unit => True) (fun _ => .tuple #[]) (fun _ => (sep (WrP p (bitsS s bad [2, 1, 13] [0, flagN pk.more, pk.off]).1 (bitsS s bad [2, 1, 13] [0, flagN pk.more, pk.off]).2) ((sep (cel b2 [.int .i64 0, .int .i64 (flagN pk.more), .int .i64 pk.off] 3) (cel b1 [.int .i64 2, .int .i64 1, .int .i64 13] 3))))) := by
  have hf : flagN pk.more = 0 ∨ flagN pk.more = 1 := by unfold flagN; split <;> simp
  cases bad with
  | true =>
    rw [bitsS_true]
    exact (Bits_bad p s _ _).frame _
  | false =>
    exact Bits_go p s (sep (cel b2 [.int .i64 0, .int .i64 (flagN pk.more), .int .i64 pk.off] 3) (cel b1 [.int .i64 2, .int .i64 1, .int .i64 13] 3)) (some (ad b1 0)) (some (ad b2 0)) 3 3 [2, 1, 13] [0, flagN pk.more, pk.off] (RdS.lit (b := b1) (cells := [.int .i64 2, .int .i64 1, .int .i64 13]) rfl encZ_len) (RdS.lit (b := b2) (cells := [.int .i64 0, .int .i64 (flagN pk.more), .int .i64 pk.off]) rfl encZ_len) ⟨by decide, by show 3 ≤ 1000000; decide⟩ (by decide)
      (fun v hv => by simp only [List.mem_cons, List.not_mem_nil, or_false] at hv; have := hp.i.2.1; rcases hv with rfl | rfl | rfl <;> omega) (by decide) rfl hs
attribute [local irreducible] be ones h20 chain bitsS flagN partN

theorem parts_spec  : FSpec Try.prog 62 #[] (emp) (fun b : Nat => True) (fun b => .slice (some (ad b 0)) 3 3) (fun b => cel b [.int .i64 2, .int .i64 1, .int .i64 13] 3) := by
  refine FSpec.enter' Try.func62 rfl Try.ntmps62 rfl fun σ F => ?_
  refine J_emp ?_
  refine J_seq ?_
  refine J_region ?_
  refine L_v (opv_assign rfl) rfl ?_
  refine L_nil ?_
  refine K_then ?_
  refine J_seq ?_
  refine J_region ?_
  refine L_x rfl (opx_buildSliceL rfl rfl rfl (by decide) (by simp [Value.cells]) rfl) (fun b _ => ?_)
  refine L_v (opv_assign rfl) rfl ?_
  refine L_nil ?_
  refine K_then ?_
  refine J_ret ?_
  exact K_ret1 rfl rfl b trivial rfl (Ent.refl _)

theorem flag_spec (x : Bool) : FSpec Try.prog 63 #[.bool x] (emp) (fun _ : Unit => True) (fun _ => .int .i64 (flagN x)) (fun _ => emp) := by
  refine FSpec.enter' Try.func63 rfl Try.ntmps63 rfl fun σ F => ?_
  refine J_seq ?_
  refine J_region ?_
  refine L_v (opv_assign rfl) rfl ?_
  refine L_nil ?_
  refine K_then ?_
  refine J_seq ?_
  refine J_seq ?_
  refine J_region ?_
  refine L_v (opv_move rfl) rfl ?_
  refine L_nil ?_
  refine K_then ?_
  refine J_cond_bool rfl (fun h1 => ?_) (fun h1 => ?_)
  · refine J_seq ?_
    refine J_region ?_
    refine L_v (opv_assign rfl) rfl ?_
    refine L_nil ?_
    refine K_then ?_
    refine J_ret ?_
    refine K_then_ret ?_
    exact K_ret1 rfl rfl () trivial (by unfold flagN; rw [if_pos (by assumption)]) (Ent.refl _)
  · refine J_skip ?_
    refine K_then ?_
    refine J_seq ?_
    refine J_region ?_
    refine L_v (opv_assign rfl) rfl ?_
    refine L_nil ?_
    refine K_then ?_
    refine J_ret ?_
    exact K_ret1 rfl rfl () trivial (by unfold flagN; rw [if_neg (by simp_all)]) (Ent.refl _)

set_option maxHeartbeats 400000 in
theorem Ip4Encode_bad (p : Pk) (hp : okPk p) (h : ¬ fieldsB p) (hd : p.data.size ≤ 9223372036854775787) : FSpec Try.prog 38 #[.agg [.int .i64 p.id, .bool p.more, .int .i64 p.off, .int .i64 p.ttl, .int .i64 p.proto, .int .u8 p.s0, .int .u8 p.s1, .int .u8 p.s2, .int .u8 p.s3, .int .u8 p.d0, .int .u8 p.d1, .int .u8 p.d2, .int .u8 p.d3, .string p.data].toArray] (emp) (fun _ : Unit => True) (fun _ => .tuple #[.string (ByteArray.empty), .int .i64 1]) (fun _ => emp) := by
  obtain ⟨nn, hnn1⟩ : ∃ nn : Nat, nn = min (20 + p.data.size) 65535 := ⟨_, rfl⟩
  have hnn : nn ≤ 65535 := by omega
  have hi := hp.i
  have hz3 : (be 69 1 ++ be 0 1 ++ be nn 2).size = 4 := by simp only [ByteArray.size_append, be_size]
  have g1 := putS_size (be 69 1 ++ be 0 1 ++ be nn 2) false p.id 2
  have g2 := bitsS_size (putS (be 69 1 ++ be 0 1 ++ be nn 2) false p.id 2).1 (putS (be 69 1 ++ be 0 1 ++ be nn 2) false p.id 2).2 p
  have g3 := putS_size (bitsS (putS (be 69 1 ++ be 0 1 ++ be nn 2) false p.id 2).1 (putS (be 69 1 ++ be 0 1 ++ be nn 2) false p.id 2).2 [2, 1, 13] [0, flagN p.more, p.off]).1 (bitsS (putS (be 69 1 ++ be 0 1 ++ be nn 2) false p.id 2).1 (putS (be 69 1 ++ be 0 1 ++ be nn 2) false p.id 2).2 [2, 1, 13] [0, flagN p.more, p.off]).2 p.ttl 1
  have g4 := putS_size (putS (bitsS (putS (be 69 1 ++ be 0 1 ++ be nn 2) false p.id 2).1 (putS (be 69 1 ++ be 0 1 ++ be nn 2) false p.id 2).2 [2, 1, 13] [0, flagN p.more, p.off]).1 (bitsS (putS (be 69 1 ++ be 0 1 ++ be nn 2) false p.id 2).1 (putS (be 69 1 ++ be 0 1 ++ be nn 2) false p.id 2).2 [2, 1, 13] [0, flagN p.more, p.off]).2 p.ttl 1).1 (putS (bitsS (putS (be 69 1 ++ be 0 1 ++ be nn 2) false p.id 2).1 (putS (be 69 1 ++ be 0 1 ++ be nn 2) false p.id 2).2 [2, 1, 13] [0, flagN p.more, p.off]).1 (bitsS (putS (be 69 1 ++ be 0 1 ++ be nn 2) false p.id 2).1 (putS (be 69 1 ++ be 0 1 ++ be nn 2) false p.id 2).2 [2, 1, 13] [0, flagN p.more, p.off]).2 p.ttl 1).2 p.proto 1
  have hcb : (putS (putS (putS (bitsS (putS (be 69 1 ++ be 0 1 ++ be nn 2) false p.id 2).1 (putS (be 69 1 ++ be 0 1 ++ be nn 2) false p.id 2).2 [2, 1, 13] [0, flagN p.more, p.off]).1 (bitsS (putS (be 69 1 ++ be 0 1 ++ be nn 2) false p.id 2).1 (putS (be 69 1 ++ be 0 1 ++ be nn 2) false p.id 2).2 [2, 1, 13] [0, flagN p.more, p.off]).2 p.ttl 1).1 (putS (bitsS (putS (be 69 1 ++ be 0 1 ++ be nn 2) false p.id 2).1 (putS (be 69 1 ++ be 0 1 ++ be nn 2) false p.id 2).2 [2, 1, 13] [0, flagN p.more, p.off]).1 (bitsS (putS (be 69 1 ++ be 0 1 ++ be nn 2) false p.id 2).1 (putS (be 69 1 ++ be 0 1 ++ be nn 2) false p.id 2).2 [2, 1, 13] [0, flagN p.more, p.off]).2 p.ttl 1).2 p.proto 1).1 (putS (putS (bitsS (putS (be 69 1 ++ be 0 1 ++ be nn 2) false p.id 2).1 (putS (be 69 1 ++ be 0 1 ++ be nn 2) false p.id 2).2 [2, 1, 13] [0, flagN p.more, p.off]).1 (bitsS (putS (be 69 1 ++ be 0 1 ++ be nn 2) false p.id 2).1 (putS (be 69 1 ++ be 0 1 ++ be nn 2) false p.id 2).2 [2, 1, 13] [0, flagN p.more, p.off]).2 p.ttl 1).1 (putS (bitsS (putS (be 69 1 ++ be 0 1 ++ be nn 2) false p.id 2).1 (putS (be 69 1 ++ be 0 1 ++ be nn 2) false p.id 2).2 [2, 1, 13] [0, flagN p.more, p.off]).1 (bitsS (putS (be 69 1 ++ be 0 1 ++ be nn 2) false p.id 2).1 (putS (be 69 1 ++ be 0 1 ++ be nn 2) false p.id 2).2 [2, 1, 13] [0, flagN p.more, p.off]).2 p.ttl 1).2 p.proto 1).2 0 2).2 = true := by have := chain_bad (s := (be 69 1 ++ be 0 1 ++ be nn 2)) h; unfold chain at this; exact this
  refine FSpec.enter' Try.func38 rfl Try.ntmps38 rfl fun σ F => ?_
  refine J_emp ?_
  refine J_seq ?_
  refine J_region ?_
  refine L_x rfl (opx_box (l := [.int .i64 p.id, .bool p.more, .int .i64 p.off, .int .i64 p.ttl, .int .i64 p.proto, .int .u8 p.s0, .int .u8 p.s1, .int .u8 p.s2, .int .u8 p.s3, .int .u8 p.d0, .int .u8 p.d1, .int .u8 p.d2, .int .u8 p.d3, .string p.data]) rfl rfl) (fun b1 _ => ?_)
  refine L_v (opv_assign rfl) rfl ?_
  refine L_v (opv_assign rfl) rfl ?_
  refine L_nil ?_
  refine K_then ?_
  refine J_seq ?_
  refine J_region ?_
  refine L_v (opv_build rfl) rfl ?_
  refine L_x rfl (opx_box rfl rfl) (fun w _ => ?_)
  refine L_v (opv_assign rfl) rfl ?_
  refine L_nil ?_
  refine K_then ?_
  refine J_seq ?_
  refine J_imp _ WrP_new ?_
  refine J_region ?_
  refine L_v (opv_move rfl) rfl ?_
  refine L_x rfl (opx_call0 (U8_n w (bytesL []) 69 (by decide) (by decide)) rfl rfl rfl) (fun _ _ => ?_)
  rw [nil_app]
  refine L_nil ?_
  refine K_then ?_
  refine J_seq ?_
  refine J_region ?_
  refine L_v (opv_move rfl) rfl ?_
  refine L_x rfl (opx_call0 (U8_n w (be 69 1) 0 (by decide) (by simp only [ByteArray.size_append, be_size, bytesL_size]; first | decide | omega)) rfl rfl rfl) (fun _ _ => ?_)
  refine L_nil ?_
  refine K_then ?_
  refine J_seq ?_
  refine J_region ?_
  refine L_v (opv_move rfl) rfl ?_
  first
    | refine L_v (opv_fieldAddr0 rfl) rfl ?_
    | refine L_v (opv_fieldAddr rfl) rfl ?_
  refine L_v (opv_load rfl (Rd.look rfl)) rfl ?_
  first
    | refine L_v (opv_lenL rfl) rfl ?_
    | refine L_v (opv_lenS rfl) rfl ?_
  first
    | refine L_v (opv_add64 rfl rfl (by omega)) rfl ?_
    | refine L_v (opv_addS rfl rfl (by omega)) rfl ?_
    | refine L_v (opv_add rfl rfl) rfl ?_
  refine L_v ((opv_min rfl rfl).as (v' := .int .i64 (nn : Nat)) (congrArg (Value.int .i64) (by split <;> omega))) rfl ?_
  refine L_x rfl (opx_call0 (U16_ok w (be 69 1 ++ be 0 1) nn hnn (by simp only [ByteArray.size_append, be_size, bytesL_size]; first | decide | omega)) rfl rfl rfl) (fun _ _ => ?_)
  refine L_nil ?_
  refine K_then ?_
  refine J_seq ?_
  refine J_region ?_
  refine L_v (opv_move rfl) rfl ?_
  first
    | refine L_v (opv_fieldAddr0 rfl) rfl ?_
    | refine L_v (opv_fieldAddr rfl) rfl ?_
  refine L_v (opv_load rfl (Rd.look rfl)) rfl ?_
  refine L_x rfl (opx_call0 (U16_spec w (be 69 1 ++ be 0 1 ++ be nn 2) false p.id hi.1 (by omega)) rfl rfl rfl) (fun _ _ => ?_)
  refine L_nil ?_
  refine K_then ?_
  refine J_seq ?_
  refine J_steps (cel b1 [.int .i64 p.id, .bool p.more, .int .i64 p.off, .int .i64 p.ttl, .int .i64 p.proto, .int .u8 p.s0, .int .u8 p.s1, .int .u8 p.s2, .int .u8 p.s3, .int .u8 p.d0, .int .u8 p.d1, .int .u8 p.d2, .int .u8 p.d3, .string p.data] 32) (cel b1 [.int .i64 p.id, .bool p.more, .int .i64 p.off, .int .i64 p.ttl, .int .i64 p.proto, .int .u8 p.s0, .int .u8 p.s1, .int .u8 p.s2, .int .u8 p.s3, .int .u8 p.d0, .int .u8 p.d1, .int .u8 p.d2, .int .u8 p.d3, .string p.data] 32) [] Try.mixed ?_
  refine R_pure 0 rfl (by kernel_rfl) (by kernel_rfl) (by kernel_rfl) (by kernel_rfl) (.inr ⟨_, Take.eq (A := cel b1 [.int .i64 p.id, .bool p.more, .int .i64 p.off, .int .i64 p.ttl, .int .i64 p.proto, .int .u8 p.s0, .int .u8 p.s1, .int .u8 p.s2, .int .u8 p.s3, .int .u8 p.d0, .int .u8 p.d1, .int .u8 p.d2, .int .u8 p.d3, .string p.data] 32)⟩) (opv_move rfl) rfl ?_
  first
    | refine R_pure 2 rfl (by kernel_rfl) (by kernel_rfl) (by kernel_rfl) (by kernel_rfl) (.inr ⟨_, Take.eq (A := cel b1 [.int .i64 p.id, .bool p.more, .int .i64 p.off, .int .i64 p.ttl, .int .i64 p.proto, .int .u8 p.s0, .int .u8 p.s1, .int .u8 p.s2, .int .u8 p.s3, .int .u8 p.d0, .int .u8 p.d1, .int .u8 p.d2, .int .u8 p.d3, .string p.data] 32)⟩) (opv_fieldAddr0 rfl) rfl ?_
    | refine R_pure 2 rfl (by kernel_rfl) (by kernel_rfl) (by kernel_rfl) (by kernel_rfl) (.inr ⟨_, Take.eq (A := cel b1 [.int .i64 p.id, .bool p.more, .int .i64 p.off, .int .i64 p.ttl, .int .i64 p.proto, .int .u8 p.s0, .int .u8 p.s1, .int .u8 p.s2, .int .u8 p.s3, .int .u8 p.d0, .int .u8 p.d1, .int .u8 p.d2, .int .u8 p.d3, .string p.data] 32)⟩) (opv_fieldAddr rfl) rfl ?_
  refine R_take 3 rfl (by kernel_rfl) (by kernel_rfl) (by kernel_rfl) (by kernel_rfl) (by kernel_rfl) (opv_load rfl (Rd.look rfl)) rfl ?_
  first
    | refine R_pure 5 rfl (by kernel_rfl) (by kernel_rfl) (by kernel_rfl) (by kernel_rfl) (.inr ⟨_, Take.eq (A := cel b1 [.int .i64 p.id, .bool p.more, .int .i64 p.off, .int .i64 p.ttl, .int .i64 p.proto, .int .u8 p.s0, .int .u8 p.s1, .int .u8 p.s2, .int .u8 p.s3, .int .u8 p.d0, .int .u8 p.d1, .int .u8 p.d2, .int .u8 p.d3, .string p.data] 32)⟩) (opv_fieldAddr0 rfl) rfl ?_
    | refine R_pure 5 rfl (by kernel_rfl) (by kernel_rfl) (by kernel_rfl) (by kernel_rfl) (.inr ⟨_, Take.eq (A := cel b1 [.int .i64 p.id, .bool p.more, .int .i64 p.off, .int .i64 p.ttl, .int .i64 p.proto, .int .u8 p.s0, .int .u8 p.s1, .int .u8 p.s2, .int .u8 p.s3, .int .u8 p.d0, .int .u8 p.d1, .int .u8 p.d2, .int .u8 p.d3, .string p.data] 32)⟩) (opv_fieldAddr rfl) rfl ?_
  refine R_take 6 rfl (by kernel_rfl) (by kernel_rfl) (by kernel_rfl) (by kernel_rfl) (by kernel_rfl) (opv_load rfl (Rd.look rfl)) rfl ?_
  refine R_only 1 rfl rfl (by kernel_rfl) (opx_call0 (parts_spec) rfl rfl rfl) (fun _ _ => ⟨_, Take.eq (A := cel b1 [.int .i64 p.id, .bool p.more, .int .i64 p.off, .int .i64 p.ttl, .int .i64 p.proto, .int .u8 p.s0, .int .u8 p.s1, .int .u8 p.s2, .int .u8 p.s3, .int .u8 p.d0, .int .u8 p.d1, .int .u8 p.d2, .int .u8 p.d3, .string p.data] 32)⟩) (.inr fun _ _ => ⟨_, Take.eq (A := cel b1 [.int .i64 p.id, .bool p.more, .int .i64 p.off, .int .i64 p.ttl, .int .i64 p.proto, .int .u8 p.s0, .int .u8 p.s1, .int .u8 p.s2, .int .u8 p.s3, .int .u8 p.d0, .int .u8 p.d1, .int .u8 p.d2, .int .u8 p.d3, .string p.data] 32)⟩) (fun bp _ => ?_)
  refine R_only 4 rfl rfl (by kernel_rfl) (opx_call0 (flag_spec p.more) rfl rfl rfl) (fun _ _ => ⟨_, Take.eq (A := cel b1 [.int .i64 p.id, .bool p.more, .int .i64 p.off, .int .i64 p.ttl, .int .i64 p.proto, .int .u8 p.s0, .int .u8 p.s1, .int .u8 p.s2, .int .u8 p.s3, .int .u8 p.d0, .int .u8 p.d1, .int .u8 p.d2, .int .u8 p.d3, .string p.data] 32)⟩) (.inr fun _ _ => ⟨_, Take.eq (A := cel b1 [.int .i64 p.id, .bool p.more, .int .i64 p.off, .int .i64 p.ttl, .int .i64 p.proto, .int .u8 p.s0, .int .u8 p.s1, .int .u8 p.s2, .int .u8 p.s3, .int .u8 p.d0, .int .u8 p.d1, .int .u8 p.d2, .int .u8 p.d3, .string p.data] 32)⟩) (fun _ _ => ?_)
  refine Rg_emp ?_
  refine R_only 7 rfl rfl (by kernel_rfl) (opx_buildSliceL rfl rfl rfl (by omega) (by simp [Value.cells]) rfl) (fun _ _ => ⟨_, Take.eq (A := cel b1 [.int .i64 p.id, .bool p.more, .int .i64 p.off, .int .i64 p.ttl, .int .i64 p.proto, .int .u8 p.s0, .int .u8 p.s1, .int .u8 p.s2, .int .u8 p.s3, .int .u8 p.d0, .int .u8 p.d1, .int .u8 p.d2, .int .u8 p.d3, .string p.data] 32)⟩) (.inr fun _ _ => ⟨_, Take.eq (A := cel b1 [.int .i64 p.id, .bool p.more, .int .i64 p.off, .int .i64 p.ttl, .int .i64 p.proto, .int .u8 p.s0, .int .u8 p.s1, .int .u8 p.s2, .int .u8 p.s3, .int .u8 p.d0, .int .u8 p.d1, .int .u8 p.d2, .int .u8 p.d3, .string p.data] 32)⟩) (fun b32 _ => ?_)
  refine R_only 8 rfl rfl (by kernel_rfl) (opx_call0 (Bits3_any w bp b32 (putS (be 69 1 ++ be 0 1 ++ be nn 2) false p.id 2).1 (putS (be 69 1 ++ be 0 1 ++ be nn 2) false p.id 2).2 p hp (by omega)) rfl rfl rfl) (fun _ _ => ⟨_, Take.eq (A := cel b1 [.int .i64 p.id, .bool p.more, .int .i64 p.off, .int .i64 p.ttl, .int .i64 p.proto, .int .u8 p.s0, .int .u8 p.s1, .int .u8 p.s2, .int .u8 p.s3, .int .u8 p.d0, .int .u8 p.d1, .int .u8 p.d2, .int .u8 p.d3, .string p.data] 32)⟩) (.inr fun _ _ => ⟨_, Take.eq (A := cel b1 [.int .i64 p.id, .bool p.more, .int .i64 p.off, .int .i64 p.ttl, .int .i64 p.proto, .int .u8 p.s0, .int .u8 p.s1, .int .u8 p.s2, .int .u8 p.s3, .int .u8 p.d0, .int .u8 p.d1, .int .u8 p.d2, .int .u8 p.d3, .string p.data] 32)⟩) (fun _ _ => ?_)
  refine R_done (by kernel_rfl) ?_
  refine K_then ?_
  refine J_seq ?_
  refine J_region ?_
  refine L_v (opv_move rfl) rfl ?_
  first
    | refine L_v (opv_fieldAddr0 rfl) rfl ?_
    | refine L_v (opv_fieldAddr rfl) rfl ?_
  refine L_v (opv_load rfl (Rd.look rfl)) rfl ?_
  refine L_x rfl (opx_call0 (U8_spec w (bitsS (putS (be 69 1 ++ be 0 1 ++ be nn 2) false p.id 2).1 (putS (be 69 1 ++ be 0 1 ++ be nn 2) false p.id 2).2 [2, 1, 13] [0, flagN p.more, p.off]).1 (bitsS (putS (be 69 1 ++ be 0 1 ++ be nn 2) false p.id 2).1 (putS (be 69 1 ++ be 0 1 ++ be nn 2) false p.id 2).2 [2, 1, 13] [0, flagN p.more, p.off]).2 p.ttl hi.2.2.1 (by omega)) rfl rfl rfl) (fun _ _ => ?_)
  refine L_nil ?_
  refine K_then ?_
  refine J_seq ?_
  refine J_region ?_
  refine L_v (opv_move rfl) rfl ?_
  first
    | refine L_v (opv_fieldAddr0 rfl) rfl ?_
    | refine L_v (opv_fieldAddr rfl) rfl ?_
  refine L_v (opv_load rfl (Rd.look rfl)) rfl ?_
  refine L_x rfl (opx_call0 (U8_spec w (putS (bitsS (putS (be 69 1 ++ be 0 1 ++ be nn 2) false p.id 2).1 (putS (be 69 1 ++ be 0 1 ++ be nn 2) false p.id 2).2 [2, 1, 13] [0, flagN p.more, p.off]).1 (bitsS (putS (be 69 1 ++ be 0 1 ++ be nn 2) false p.id 2).1 (putS (be 69 1 ++ be 0 1 ++ be nn 2) false p.id 2).2 [2, 1, 13] [0, flagN p.more, p.off]).2 p.ttl 1).1 (putS (bitsS (putS (be 69 1 ++ be 0 1 ++ be nn 2) false p.id 2).1 (putS (be 69 1 ++ be 0 1 ++ be nn 2) false p.id 2).2 [2, 1, 13] [0, flagN p.more, p.off]).1 (bitsS (putS (be 69 1 ++ be 0 1 ++ be nn 2) false p.id 2).1 (putS (be 69 1 ++ be 0 1 ++ be nn 2) false p.id 2).2 [2, 1, 13] [0, flagN p.more, p.off]).2 p.ttl 1).2 p.proto hi.2.2.2 (by omega)) rfl rfl rfl) (fun _ _ => ?_)
  refine L_nil ?_
  refine K_then ?_
  refine J_seq ?_
  refine J_region ?_
  refine L_v (opv_move rfl) rfl ?_
  refine L_x rfl (opx_call0 (U16_spec w (putS (putS (bitsS (putS (be 69 1 ++ be 0 1 ++ be nn 2) false p.id 2).1 (putS (be 69 1 ++ be 0 1 ++ be nn 2) false p.id 2).2 [2, 1, 13] [0, flagN p.more, p.off]).1 (bitsS (putS (be 69 1 ++ be 0 1 ++ be nn 2) false p.id 2).1 (putS (be 69 1 ++ be 0 1 ++ be nn 2) false p.id 2).2 [2, 1, 13] [0, flagN p.more, p.off]).2 p.ttl 1).1 (putS (bitsS (putS (be 69 1 ++ be 0 1 ++ be nn 2) false p.id 2).1 (putS (be 69 1 ++ be 0 1 ++ be nn 2) false p.id 2).2 [2, 1, 13] [0, flagN p.more, p.off]).1 (bitsS (putS (be 69 1 ++ be 0 1 ++ be nn 2) false p.id 2).1 (putS (be 69 1 ++ be 0 1 ++ be nn 2) false p.id 2).2 [2, 1, 13] [0, flagN p.more, p.off]).2 p.ttl 1).2 p.proto 1).1 (putS (putS (bitsS (putS (be 69 1 ++ be 0 1 ++ be nn 2) false p.id 2).1 (putS (be 69 1 ++ be 0 1 ++ be nn 2) false p.id 2).2 [2, 1, 13] [0, flagN p.more, p.off]).1 (bitsS (putS (be 69 1 ++ be 0 1 ++ be nn 2) false p.id 2).1 (putS (be 69 1 ++ be 0 1 ++ be nn 2) false p.id 2).2 [2, 1, 13] [0, flagN p.more, p.off]).2 p.ttl 1).1 (putS (bitsS (putS (be 69 1 ++ be 0 1 ++ be nn 2) false p.id 2).1 (putS (be 69 1 ++ be 0 1 ++ be nn 2) false p.id 2).2 [2, 1, 13] [0, flagN p.more, p.off]).1 (bitsS (putS (be 69 1 ++ be 0 1 ++ be nn 2) false p.id 2).1 (putS (be 69 1 ++ be 0 1 ++ be nn 2) false p.id 2).2 [2, 1, 13] [0, flagN p.more, p.off]).2 p.ttl 1).2 p.proto 1).2 0 (by decide) (by omega)) rfl rfl rfl) (fun _ _ => ?_)
  refine L_nil ?_
  refine K_then ?_
  refine J_seq ?_
  rw [hcb]
  refine J_steps (cel b1 [.int .i64 p.id, .bool p.more, .int .i64 p.off, .int .i64 p.ttl, .int .i64 p.proto, .int .u8 p.s0, .int .u8 p.s1, .int .u8 p.s2, .int .u8 p.s3, .int .u8 p.d0, .int .u8 p.d1, .int .u8 p.d2, .int .u8 p.d3, .string p.data] 32) (cel b1 [.int .i64 p.id, .bool p.more, .int .i64 p.off, .int .i64 p.ttl, .int .i64 p.proto, .int .u8 p.s0, .int .u8 p.s1, .int .u8 p.s2, .int .u8 p.s3, .int .u8 p.d0, .int .u8 p.d1, .int .u8 p.d2, .int .u8 p.d3, .string p.data] 32) [] Try.mixed ?_
  refine R_pure 0 rfl (by kernel_rfl) (by kernel_rfl) (by kernel_rfl) (by kernel_rfl) (.inr ⟨_, Take.eq (A := cel b1 [.int .i64 p.id, .bool p.more, .int .i64 p.off, .int .i64 p.ttl, .int .i64 p.proto, .int .u8 p.s0, .int .u8 p.s1, .int .u8 p.s2, .int .u8 p.s3, .int .u8 p.d0, .int .u8 p.d1, .int .u8 p.d2, .int .u8 p.d3, .string p.data] 32)⟩) (opv_move rfl) rfl ?_
  first
    | refine R_pure 1 rfl (by kernel_rfl) (by kernel_rfl) (by kernel_rfl) (by kernel_rfl) (.inr ⟨_, Take.eq (A := cel b1 [.int .i64 p.id, .bool p.more, .int .i64 p.off, .int .i64 p.ttl, .int .i64 p.proto, .int .u8 p.s0, .int .u8 p.s1, .int .u8 p.s2, .int .u8 p.s3, .int .u8 p.d0, .int .u8 p.d1, .int .u8 p.d2, .int .u8 p.d3, .string p.data] 32)⟩) (opv_fieldAddr0 rfl) rfl ?_
    | refine R_pure 1 rfl (by kernel_rfl) (by kernel_rfl) (by kernel_rfl) (by kernel_rfl) (.inr ⟨_, Take.eq (A := cel b1 [.int .i64 p.id, .bool p.more, .int .i64 p.off, .int .i64 p.ttl, .int .i64 p.proto, .int .u8 p.s0, .int .u8 p.s1, .int .u8 p.s2, .int .u8 p.s3, .int .u8 p.d0, .int .u8 p.d1, .int .u8 p.d2, .int .u8 p.d3, .string p.data] 32)⟩) (opv_fieldAddr rfl) rfl ?_
  refine R_pure 2 rfl (by kernel_rfl) (by kernel_rfl) (by kernel_rfl) (by kernel_rfl) (.inr ⟨_, Take.eq (A := cel b1 [.int .i64 p.id, .bool p.more, .int .i64 p.off, .int .i64 p.ttl, .int .i64 p.proto, .int .u8 p.s0, .int .u8 p.s1, .int .u8 p.s2, .int .u8 p.s3, .int .u8 p.d0, .int .u8 p.d1, .int .u8 p.d2, .int .u8 p.d3, .string p.data] 32)⟩) (opv_sliceA rfl) rfl ?_
  refine R_pure 3 rfl (by kernel_rfl) (by kernel_rfl) (by kernel_rfl) (by kernel_rfl) (.inr ⟨_, Take.eq (A := cel b1 [.int .i64 p.id, .bool p.more, .int .i64 p.off, .int .i64 p.ttl, .int .i64 p.proto, .int .u8 p.s0, .int .u8 p.s1, .int .u8 p.s2, .int .u8 p.s3, .int .u8 p.d0, .int .u8 p.d1, .int .u8 p.d2, .int .u8 p.d3, .string p.data] 32)⟩) (opv_b2sC [p.s0, p.s1, p.s2, p.s3] rfl rfl rfl hp.src) rfl ?_
  first
    | refine R_pure 4 rfl (by kernel_rfl) (by kernel_rfl) (by kernel_rfl) (by kernel_rfl) (.inr ⟨_, Take.eq (A := cel b1 [.int .i64 p.id, .bool p.more, .int .i64 p.off, .int .i64 p.ttl, .int .i64 p.proto, .int .u8 p.s0, .int .u8 p.s1, .int .u8 p.s2, .int .u8 p.s3, .int .u8 p.d0, .int .u8 p.d1, .int .u8 p.d2, .int .u8 p.d3, .string p.data] 32)⟩) (opv_fieldAddr0 rfl) rfl ?_
    | refine R_pure 4 rfl (by kernel_rfl) (by kernel_rfl) (by kernel_rfl) (by kernel_rfl) (.inr ⟨_, Take.eq (A := cel b1 [.int .i64 p.id, .bool p.more, .int .i64 p.off, .int .i64 p.ttl, .int .i64 p.proto, .int .u8 p.s0, .int .u8 p.s1, .int .u8 p.s2, .int .u8 p.s3, .int .u8 p.d0, .int .u8 p.d1, .int .u8 p.d2, .int .u8 p.d3, .string p.data] 32)⟩) (opv_fieldAddr rfl) rfl ?_
  refine R_pure 5 rfl (by kernel_rfl) (by kernel_rfl) (by kernel_rfl) (by kernel_rfl) (.inr ⟨_, Take.eq (A := cel b1 [.int .i64 p.id, .bool p.more, .int .i64 p.off, .int .i64 p.ttl, .int .i64 p.proto, .int .u8 p.s0, .int .u8 p.s1, .int .u8 p.s2, .int .u8 p.s3, .int .u8 p.d0, .int .u8 p.d1, .int .u8 p.d2, .int .u8 p.d3, .string p.data] 32)⟩) (opv_sliceA rfl) rfl ?_
  refine R_pure 6 rfl (by kernel_rfl) (by kernel_rfl) (by kernel_rfl) (by kernel_rfl) (.inr ⟨_, Take.eq (A := cel b1 [.int .i64 p.id, .bool p.more, .int .i64 p.off, .int .i64 p.ttl, .int .i64 p.proto, .int .u8 p.s0, .int .u8 p.s1, .int .u8 p.s2, .int .u8 p.s3, .int .u8 p.d0, .int .u8 p.d1, .int .u8 p.d2, .int .u8 p.d3, .string p.data] 32)⟩) (opv_b2sC [p.d0, p.d1, p.d2, p.d3] rfl rfl rfl hp.dst) rfl ?_
  refine R_pure 7 rfl (by kernel_rfl) (by kernel_rfl) (by kernel_rfl) (by kernel_rfl) (.inr ⟨_, Take.eq (A := cel b1 [.int .i64 p.id, .bool p.more, .int .i64 p.off, .int .i64 p.ttl, .int .i64 p.proto, .int .u8 p.s0, .int .u8 p.s1, .int .u8 p.s2, .int .u8 p.s3, .int .u8 p.d0, .int .u8 p.d1, .int .u8 p.d2, .int .u8 p.d3, .string p.data] 32)⟩) ((opv_addS rfl rfl (by rw [bytesL_size, bytesL_size]; show 4 + 4 ≤ 9223372036854775807; decide)).as (v' := .string (hB p)) (congrArg Value.string (hB_eq p))) rfl ?_
  refine R_only 8 rfl rfl (by kernel_rfl) (opx_call0 (WText_bad w (putS (putS (putS (bitsS (putS (be 69 1 ++ be 0 1 ++ be nn 2) false p.id 2).1 (putS (be 69 1 ++ be 0 1 ++ be nn 2) false p.id 2).2 [2, 1, 13] [0, flagN p.more, p.off]).1 (bitsS (putS (be 69 1 ++ be 0 1 ++ be nn 2) false p.id 2).1 (putS (be 69 1 ++ be 0 1 ++ be nn 2) false p.id 2).2 [2, 1, 13] [0, flagN p.more, p.off]).2 p.ttl 1).1 (putS (bitsS (putS (be 69 1 ++ be 0 1 ++ be nn 2) false p.id 2).1 (putS (be 69 1 ++ be 0 1 ++ be nn 2) false p.id 2).2 [2, 1, 13] [0, flagN p.more, p.off]).1 (bitsS (putS (be 69 1 ++ be 0 1 ++ be nn 2) false p.id 2).1 (putS (be 69 1 ++ be 0 1 ++ be nn 2) false p.id 2).2 [2, 1, 13] [0, flagN p.more, p.off]).2 p.ttl 1).2 p.proto 1).1 (putS (putS (bitsS (putS (be 69 1 ++ be 0 1 ++ be nn 2) false p.id 2).1 (putS (be 69 1 ++ be 0 1 ++ be nn 2) false p.id 2).2 [2, 1, 13] [0, flagN p.more, p.off]).1 (bitsS (putS (be 69 1 ++ be 0 1 ++ be nn 2) false p.id 2).1 (putS (be 69 1 ++ be 0 1 ++ be nn 2) false p.id 2).2 [2, 1, 13] [0, flagN p.more, p.off]).2 p.ttl 1).1 (putS (bitsS (putS (be 69 1 ++ be 0 1 ++ be nn 2) false p.id 2).1 (putS (be 69 1 ++ be 0 1 ++ be nn 2) false p.id 2).2 [2, 1, 13] [0, flagN p.more, p.off]).1 (bitsS (putS (be 69 1 ++ be 0 1 ++ be nn 2) false p.id 2).1 (putS (be 69 1 ++ be 0 1 ++ be nn 2) false p.id 2).2 [2, 1, 13] [0, flagN p.more, p.off]).2 p.ttl 1).2 p.proto 1).2 0 2).1 (hB p)) rfl rfl rfl) (fun _ _ => ⟨_, Take.eq (A := cel b1 [.int .i64 p.id, .bool p.more, .int .i64 p.off, .int .i64 p.ttl, .int .i64 p.proto, .int .u8 p.s0, .int .u8 p.s1, .int .u8 p.s2, .int .u8 p.s3, .int .u8 p.d0, .int .u8 p.d1, .int .u8 p.d2, .int .u8 p.d3, .string p.data] 32)⟩) (.inr fun _ _ => ⟨_, Take.eq (A := cel b1 [.int .i64 p.id, .bool p.more, .int .i64 p.off, .int .i64 p.ttl, .int .i64 p.proto, .int .u8 p.s0, .int .u8 p.s1, .int .u8 p.s2, .int .u8 p.s3, .int .u8 p.d0, .int .u8 p.d1, .int .u8 p.d2, .int .u8 p.d3, .string p.data] 32)⟩) (fun _ _ => ?_)
  refine R_done (by kernel_rfl) ?_
  refine K_then ?_
  refine J_seq ?_
  refine J_region ?_
  refine L_v (opv_move rfl) rfl ?_
  refine L_x rfl (opx_call0 (Bytes_bad w (putS (putS (putS (bitsS (putS (be 69 1 ++ be 0 1 ++ be nn 2) false p.id 2).1 (putS (be 69 1 ++ be 0 1 ++ be nn 2) false p.id 2).2 [2, 1, 13] [0, flagN p.more, p.off]).1 (bitsS (putS (be 69 1 ++ be 0 1 ++ be nn 2) false p.id 2).1 (putS (be 69 1 ++ be 0 1 ++ be nn 2) false p.id 2).2 [2, 1, 13] [0, flagN p.more, p.off]).2 p.ttl 1).1 (putS (bitsS (putS (be 69 1 ++ be 0 1 ++ be nn 2) false p.id 2).1 (putS (be 69 1 ++ be 0 1 ++ be nn 2) false p.id 2).2 [2, 1, 13] [0, flagN p.more, p.off]).1 (bitsS (putS (be 69 1 ++ be 0 1 ++ be nn 2) false p.id 2).1 (putS (be 69 1 ++ be 0 1 ++ be nn 2) false p.id 2).2 [2, 1, 13] [0, flagN p.more, p.off]).2 p.ttl 1).2 p.proto 1).1 (putS (putS (bitsS (putS (be 69 1 ++ be 0 1 ++ be nn 2) false p.id 2).1 (putS (be 69 1 ++ be 0 1 ++ be nn 2) false p.id 2).2 [2, 1, 13] [0, flagN p.more, p.off]).1 (bitsS (putS (be 69 1 ++ be 0 1 ++ be nn 2) false p.id 2).1 (putS (be 69 1 ++ be 0 1 ++ be nn 2) false p.id 2).2 [2, 1, 13] [0, flagN p.more, p.off]).2 p.ttl 1).1 (putS (bitsS (putS (be 69 1 ++ be 0 1 ++ be nn 2) false p.id 2).1 (putS (be 69 1 ++ be 0 1 ++ be nn 2) false p.id 2).2 [2, 1, 13] [0, flagN p.more, p.off]).1 (bitsS (putS (be 69 1 ++ be 0 1 ++ be nn 2) false p.id 2).1 (putS (be 69 1 ++ be 0 1 ++ be nn 2) false p.id 2).2 [2, 1, 13] [0, flagN p.more, p.off]).2 p.ttl 1).2 p.proto 1).2 0 2).1) rfl rfl rfl) (fun _ _ => ?_)
  refine L_v (opv_move rfl) rfl ?_
  refine L_v (opv_extract rfl rfl) rfl ?_
  refine L_v (opv_extract rfl rfl) rfl ?_
  refine L_v (opv_assign rfl) rfl ?_
  refine L_v (opv_assign rfl) rfl ?_
  refine L_nil ?_
  refine K_then ?_
  refine J_seq ?_
  refine J_block ?_
  refine J_seq ?_
  refine J_region ?_
  refine L_v (opv_move rfl) rfl ?_
  refine L_v ((opv_neq rfl rfl).bool_t (by decide)) rfl ?_
  refine L_v (opv_assign rfl) rfl ?_
  refine L_nil ?_
  refine K_then ?_
  refine J_cond_true rfl ?_
  refine J_seq ?_
  refine J_region ?_
  refine L_v (opv_move rfl) rfl ?_
  refine L_v (opv_assign rfl) rfl ?_
  refine L_v (opv_assign rfl) rfl ?_
  refine L_nil ?_
  refine K_then ?_
  refine J_ret ?_
  refine K_block_ret ?_
  refine K_then_ret ?_
  exact K_ret2 rfl rfl rfl () trivial rfl Ent.take


theorem Bits3_fit (p b1 b2 : Nat) (s : ByteArray) (pk : Pk) (hp : okPk pk) (h : 0 ≤ pk.off ∧ pk.off ≤ 8191) (hs : s.size ≤ 1099511627776) : FSpec Try.prog 61 #[.pointer (some (ad p 0)), .slice (some (ad b1 0)) 3 3, .slice (some (ad b2 0)) 3 3] (sep (WrP p s false) ((sep (cel b2 [.int .i64 0, .int .i64 (flagN pk.more), .int .i64 pk.off] 3) (cel b1 [.int .i64 2, .int .i64 1, .int .i64 13] 3)))) (fun _ : Unit => True) (fun _ => .tuple #[]) (fun _ => (sep (WrP p (s ++ be (partN pk) 2) false) ((sep (cel b2 [.int .i64 0, .int .i64 (flagN pk.more), .int .i64 pk.off] 3) (cel b1 [.int .i64 2, .int .i64 1, .int .i64 13] 3))))) := by
  have := Bits3_any p b1 b2 s false pk hp hs
  rwa [bits3_fit s pk h] at this
theorem U8_z (p : Nat) (s : ByteArray) (m : Int) (hk : 0 ≤ m ∧ m ≤ 255) (hs : s.size ≤ 1099511627776) : FSpec Try.prog 59 #[.pointer (some (ad p 0)), .int .i64 m] (WrP p s false) (fun _ : Unit => True) (fun _ => .tuple #[]) (fun _ => WrP p (s ++ be m.toNat 1) false) := by
  obtain ⟨k, rfl⟩ : ∃ k : Nat, m = k := ⟨m.toNat, by omega⟩
  exact U8_n p s k (by omega) hs
theorem h20_eq (p : Pk) (n m : Nat) : be 69 1 ++ be 0 1 ++ be n 2 ++ be p.id.toNat 2 ++ be (partN p) 2 ++ be p.ttl.toNat 1 ++ be p.proto.toNat 1 ++ be m 2 ++ hB p = h20 p n m := by unfold h20 hA; rfl
theorem h20_zero (p : Pk) (n : Nat) : be 69 1 ++ be 0 1 ++ be n 2 ++ be p.id.toNat 2 ++ be (partN p) 2 ++ be p.ttl.toNat 1 ++ be p.proto.toNat 1 ++ be 0 2 ++ hB p = h20 p n 0 := h20_eq p n 0
theorem pkt_eq (p : Pk) {n : Nat} (hn : n = 20 + p.data.size) : hA p n ++ be (ones (h20 p n 0)) 2 ++ (hB p ++ p.data) = pkt p := by
  subst hn
  unfold pkt
  rw [← ByteArray.append_assoc]
  unfold h20
  rfl

attribute [local irreducible] pkt hA hB
set_option maxHeartbeats 400000 in
theorem Ip4Encode_long (p : Pk) (hp : okPk p) (h : fieldsB p) (hd : 65515 < p.data.size) (hd2 : p.data.size ≤ 9223372036854775787) : FSpec Try.prog 38 #[.agg [.int .i64 p.id, .bool p.more, .int .i64 p.off, .int .i64 p.ttl, .int .i64 p.proto, .int .u8 p.s0, .int .u8 p.s1, .int .u8 p.s2, .int .u8 p.s3, .int .u8 p.d0, .int .u8 p.d1, .int .u8 p.d2, .int .u8 p.d3, .string p.data].toArray] (emp) (fun _ : Unit => True) (fun _ => .tuple #[.string (ByteArray.empty), .int .i64 11]) (fun _ => emp) := by
  obtain ⟨nn, hnn1⟩ : ∃ nn : Nat, nn = min (20 + p.data.size) 65535 := ⟨_, rfl⟩
  have hnn : nn ≤ 65535 := by omega
  have hi := hp.i
  obtain ⟨hf1, hf2, hf3, hf4⟩ := h
  refine FSpec.enter' Try.func38 rfl Try.ntmps38 rfl fun σ F => ?_
  refine J_emp ?_
  refine J_seq ?_
  refine J_region ?_
  refine L_x rfl (opx_box (l := [.int .i64 p.id, .bool p.more, .int .i64 p.off, .int .i64 p.ttl, .int .i64 p.proto, .int .u8 p.s0, .int .u8 p.s1, .int .u8 p.s2, .int .u8 p.s3, .int .u8 p.d0, .int .u8 p.d1, .int .u8 p.d2, .int .u8 p.d3, .string p.data]) rfl rfl) (fun b1 _ => ?_)
  refine L_v (opv_assign rfl) rfl ?_
  refine L_v (opv_assign rfl) rfl ?_
  refine L_nil ?_
  refine K_then ?_
  refine J_seq ?_
  refine J_region ?_
  refine L_v (opv_build rfl) rfl ?_
  refine L_x rfl (opx_box rfl rfl) (fun w _ => ?_)
  refine L_v (opv_assign rfl) rfl ?_
  refine L_nil ?_
  refine K_then ?_
  refine J_seq ?_
  refine J_imp _ WrP_new ?_
  refine J_region ?_
  refine L_v (opv_move rfl) rfl ?_
  refine L_x rfl (opx_call0 (U8_n w (bytesL []) 69 (by decide) (by decide)) rfl rfl rfl) (fun _ _ => ?_)
  rw [nil_app]
  refine L_nil ?_
  refine K_then ?_
  refine J_seq ?_
  refine J_region ?_
  refine L_v (opv_move rfl) rfl ?_
  refine L_x rfl (opx_call0 (U8_n w (be 69 1) 0 (by decide) (by simp only [ByteArray.size_append, be_size, bytesL_size]; first | decide | omega)) rfl rfl rfl) (fun _ _ => ?_)
  refine L_nil ?_
  refine K_then ?_
  refine J_seq ?_
  refine J_region ?_
  refine L_v (opv_move rfl) rfl ?_
  first
    | refine L_v (opv_fieldAddr0 rfl) rfl ?_
    | refine L_v (opv_fieldAddr rfl) rfl ?_
  refine L_v (opv_load rfl (Rd.look rfl)) rfl ?_
  first
    | refine L_v (opv_lenL rfl) rfl ?_
    | refine L_v (opv_lenS rfl) rfl ?_
  first
    | refine L_v (opv_add64 rfl rfl (by omega)) rfl ?_
    | refine L_v (opv_addS rfl rfl (by omega)) rfl ?_
    | refine L_v (opv_add rfl rfl) rfl ?_
  refine L_v ((opv_min rfl rfl).as (v' := .int .i64 (nn : Nat)) (congrArg (Value.int .i64) (by split <;> omega))) rfl ?_
  refine L_x rfl (opx_call0 (U16_ok w (be 69 1 ++ be 0 1) nn hnn (by simp only [ByteArray.size_append, be_size, bytesL_size]; first | decide | omega)) rfl rfl rfl) (fun _ _ => ?_)
  refine L_nil ?_
  refine K_then ?_
  refine J_seq ?_
  refine J_region ?_
  refine L_v (opv_move rfl) rfl ?_
  first
    | refine L_v (opv_fieldAddr0 rfl) rfl ?_
    | refine L_v (opv_fieldAddr rfl) rfl ?_
  refine L_v (opv_load rfl (Rd.look rfl)) rfl ?_
  refine L_x rfl (opx_call0 (U16_n w (be 69 1 ++ be 0 1 ++ be nn 2) p.id hf1 (by simp only [ByteArray.size_append, be_size, bytesL_size]; first | decide | omega)) rfl rfl rfl) (fun _ _ => ?_)
  refine L_nil ?_
  refine K_then ?_
  refine J_seq ?_
  refine J_steps (cel b1 [.int .i64 p.id, .bool p.more, .int .i64 p.off, .int .i64 p.ttl, .int .i64 p.proto, .int .u8 p.s0, .int .u8 p.s1, .int .u8 p.s2, .int .u8 p.s3, .int .u8 p.d0, .int .u8 p.d1, .int .u8 p.d2, .int .u8 p.d3, .string p.data] 32) (cel b1 [.int .i64 p.id, .bool p.more, .int .i64 p.off, .int .i64 p.ttl, .int .i64 p.proto, .int .u8 p.s0, .int .u8 p.s1, .int .u8 p.s2, .int .u8 p.s3, .int .u8 p.d0, .int .u8 p.d1, .int .u8 p.d2, .int .u8 p.d3, .string p.data] 32) [] Try.mixed ?_
  refine R_pure 0 rfl (by kernel_rfl) (by kernel_rfl) (by kernel_rfl) (by kernel_rfl) (.inr ⟨_, Take.eq (A := cel b1 [.int .i64 p.id, .bool p.more, .int .i64 p.off, .int .i64 p.ttl, .int .i64 p.proto, .int .u8 p.s0, .int .u8 p.s1, .int .u8 p.s2, .int .u8 p.s3, .int .u8 p.d0, .int .u8 p.d1, .int .u8 p.d2, .int .u8 p.d3, .string p.data] 32)⟩) (opv_move rfl) rfl ?_
  first
    | refine R_pure 2 rfl (by kernel_rfl) (by kernel_rfl) (by kernel_rfl) (by kernel_rfl) (.inr ⟨_, Take.eq (A := cel b1 [.int .i64 p.id, .bool p.more, .int .i64 p.off, .int .i64 p.ttl, .int .i64 p.proto, .int .u8 p.s0, .int .u8 p.s1, .int .u8 p.s2, .int .u8 p.s3, .int .u8 p.d0, .int .u8 p.d1, .int .u8 p.d2, .int .u8 p.d3, .string p.data] 32)⟩) (opv_fieldAddr0 rfl) rfl ?_
    | refine R_pure 2 rfl (by kernel_rfl) (by kernel_rfl) (by kernel_rfl) (by kernel_rfl) (.inr ⟨_, Take.eq (A := cel b1 [.int .i64 p.id, .bool p.more, .int .i64 p.off, .int .i64 p.ttl, .int .i64 p.proto, .int .u8 p.s0, .int .u8 p.s1, .int .u8 p.s2, .int .u8 p.s3, .int .u8 p.d0, .int .u8 p.d1, .int .u8 p.d2, .int .u8 p.d3, .string p.data] 32)⟩) (opv_fieldAddr rfl) rfl ?_
  refine R_take 3 rfl (by kernel_rfl) (by kernel_rfl) (by kernel_rfl) (by kernel_rfl) (by kernel_rfl) (opv_load rfl (Rd.look rfl)) rfl ?_
  first
    | refine R_pure 5 rfl (by kernel_rfl) (by kernel_rfl) (by kernel_rfl) (by kernel_rfl) (.inr ⟨_, Take.eq (A := cel b1 [.int .i64 p.id, .bool p.more, .int .i64 p.off, .int .i64 p.ttl, .int .i64 p.proto, .int .u8 p.s0, .int .u8 p.s1, .int .u8 p.s2, .int .u8 p.s3, .int .u8 p.d0, .int .u8 p.d1, .int .u8 p.d2, .int .u8 p.d3, .string p.data] 32)⟩) (opv_fieldAddr0 rfl) rfl ?_
    | refine R_pure 5 rfl (by kernel_rfl) (by kernel_rfl) (by kernel_rfl) (by kernel_rfl) (.inr ⟨_, Take.eq (A := cel b1 [.int .i64 p.id, .bool p.more, .int .i64 p.off, .int .i64 p.ttl, .int .i64 p.proto, .int .u8 p.s0, .int .u8 p.s1, .int .u8 p.s2, .int .u8 p.s3, .int .u8 p.d0, .int .u8 p.d1, .int .u8 p.d2, .int .u8 p.d3, .string p.data] 32)⟩) (opv_fieldAddr rfl) rfl ?_
  refine R_take 6 rfl (by kernel_rfl) (by kernel_rfl) (by kernel_rfl) (by kernel_rfl) (by kernel_rfl) (opv_load rfl (Rd.look rfl)) rfl ?_
  refine R_only 1 rfl rfl (by kernel_rfl) (opx_call0 (parts_spec) rfl rfl rfl) (fun _ _ => ⟨_, Take.eq (A := cel b1 [.int .i64 p.id, .bool p.more, .int .i64 p.off, .int .i64 p.ttl, .int .i64 p.proto, .int .u8 p.s0, .int .u8 p.s1, .int .u8 p.s2, .int .u8 p.s3, .int .u8 p.d0, .int .u8 p.d1, .int .u8 p.d2, .int .u8 p.d3, .string p.data] 32)⟩) (.inr fun _ _ => ⟨_, Take.eq (A := cel b1 [.int .i64 p.id, .bool p.more, .int .i64 p.off, .int .i64 p.ttl, .int .i64 p.proto, .int .u8 p.s0, .int .u8 p.s1, .int .u8 p.s2, .int .u8 p.s3, .int .u8 p.d0, .int .u8 p.d1, .int .u8 p.d2, .int .u8 p.d3, .string p.data] 32)⟩) (fun bp _ => ?_)
  refine R_only 4 rfl rfl (by kernel_rfl) (opx_call0 (flag_spec p.more) rfl rfl rfl) (fun _ _ => ⟨_, Take.eq (A := cel b1 [.int .i64 p.id, .bool p.more, .int .i64 p.off, .int .i64 p.ttl, .int .i64 p.proto, .int .u8 p.s0, .int .u8 p.s1, .int .u8 p.s2, .int .u8 p.s3, .int .u8 p.d0, .int .u8 p.d1, .int .u8 p.d2, .int .u8 p.d3, .string p.data] 32)⟩) (.inr fun _ _ => ⟨_, Take.eq (A := cel b1 [.int .i64 p.id, .bool p.more, .int .i64 p.off, .int .i64 p.ttl, .int .i64 p.proto, .int .u8 p.s0, .int .u8 p.s1, .int .u8 p.s2, .int .u8 p.s3, .int .u8 p.d0, .int .u8 p.d1, .int .u8 p.d2, .int .u8 p.d3, .string p.data] 32)⟩) (fun _ _ => ?_)
  refine Rg_emp ?_
  refine R_only 7 rfl rfl (by kernel_rfl) (opx_buildSliceL rfl rfl rfl (by omega) (by simp [Value.cells]) rfl) (fun _ _ => ⟨_, Take.eq (A := cel b1 [.int .i64 p.id, .bool p.more, .int .i64 p.off, .int .i64 p.ttl, .int .i64 p.proto, .int .u8 p.s0, .int .u8 p.s1, .int .u8 p.s2, .int .u8 p.s3, .int .u8 p.d0, .int .u8 p.d1, .int .u8 p.d2, .int .u8 p.d3, .string p.data] 32)⟩) (.inr fun _ _ => ⟨_, Take.eq (A := cel b1 [.int .i64 p.id, .bool p.more, .int .i64 p.off, .int .i64 p.ttl, .int .i64 p.proto, .int .u8 p.s0, .int .u8 p.s1, .int .u8 p.s2, .int .u8 p.s3, .int .u8 p.d0, .int .u8 p.d1, .int .u8 p.d2, .int .u8 p.d3, .string p.data] 32)⟩) (fun b32 _ => ?_)
  refine R_only 8 rfl rfl (by kernel_rfl) (opx_call0 (Bits3_fit w bp b32 (be 69 1 ++ be 0 1 ++ be nn 2 ++ be p.id.toNat 2) p hp hf2 (by simp only [ByteArray.size_append, be_size, bytesL_size]; first | decide | omega)) rfl rfl rfl) (fun _ _ => ⟨_, Take.eq (A := cel b1 [.int .i64 p.id, .bool p.more, .int .i64 p.off, .int .i64 p.ttl, .int .i64 p.proto, .int .u8 p.s0, .int .u8 p.s1, .int .u8 p.s2, .int .u8 p.s3, .int .u8 p.d0, .int .u8 p.d1, .int .u8 p.d2, .int .u8 p.d3, .string p.data] 32)⟩) (.inr fun _ _ => ⟨_, Take.eq (A := cel b1 [.int .i64 p.id, .bool p.more, .int .i64 p.off, .int .i64 p.ttl, .int .i64 p.proto, .int .u8 p.s0, .int .u8 p.s1, .int .u8 p.s2, .int .u8 p.s3, .int .u8 p.d0, .int .u8 p.d1, .int .u8 p.d2, .int .u8 p.d3, .string p.data] 32)⟩) (fun _ _ => ?_)
  refine R_done (by kernel_rfl) ?_
  refine K_then ?_
  refine J_seq ?_
  refine J_region ?_
  refine L_v (opv_move rfl) rfl ?_
  first
    | refine L_v (opv_fieldAddr0 rfl) rfl ?_
    | refine L_v (opv_fieldAddr rfl) rfl ?_
  refine L_v (opv_load rfl (Rd.look rfl)) rfl ?_
  refine L_x rfl (opx_call0 (U8_z w (be 69 1 ++ be 0 1 ++ be nn 2 ++ be p.id.toNat 2 ++ be (partN p) 2) p.ttl hf3 (by simp only [ByteArray.size_append, be_size, bytesL_size]; first | decide | omega)) rfl rfl rfl) (fun _ _ => ?_)
  refine L_nil ?_
  refine K_then ?_
  refine J_seq ?_
  refine J_region ?_
  refine L_v (opv_move rfl) rfl ?_
  first
    | refine L_v (opv_fieldAddr0 rfl) rfl ?_
    | refine L_v (opv_fieldAddr rfl) rfl ?_
  refine L_v (opv_load rfl (Rd.look rfl)) rfl ?_
  refine L_x rfl (opx_call0 (U8_z w (be 69 1 ++ be 0 1 ++ be nn 2 ++ be p.id.toNat 2 ++ be (partN p) 2 ++ be p.ttl.toNat 1) p.proto hf4 (by simp only [ByteArray.size_append, be_size, bytesL_size]; first | decide | omega)) rfl rfl rfl) (fun _ _ => ?_)
  refine L_nil ?_
  refine K_then ?_
  refine J_seq ?_
  refine J_region ?_
  refine L_v (opv_move rfl) rfl ?_
  refine L_x rfl (opx_call0 (U16_ok w (be 69 1 ++ be 0 1 ++ be nn 2 ++ be p.id.toNat 2 ++ be (partN p) 2 ++ be p.ttl.toNat 1 ++ be p.proto.toNat 1) 0 (by decide) (by simp only [ByteArray.size_append, be_size, bytesL_size]; first | decide | omega)) rfl rfl rfl) (fun _ _ => ?_)
  refine L_nil ?_
  refine K_then ?_
  refine J_seq ?_
  refine J_steps (cel b1 [.int .i64 p.id, .bool p.more, .int .i64 p.off, .int .i64 p.ttl, .int .i64 p.proto, .int .u8 p.s0, .int .u8 p.s1, .int .u8 p.s2, .int .u8 p.s3, .int .u8 p.d0, .int .u8 p.d1, .int .u8 p.d2, .int .u8 p.d3, .string p.data] 32) (cel b1 [.int .i64 p.id, .bool p.more, .int .i64 p.off, .int .i64 p.ttl, .int .i64 p.proto, .int .u8 p.s0, .int .u8 p.s1, .int .u8 p.s2, .int .u8 p.s3, .int .u8 p.d0, .int .u8 p.d1, .int .u8 p.d2, .int .u8 p.d3, .string p.data] 32) [] Try.mixed ?_
  refine R_pure 0 rfl (by kernel_rfl) (by kernel_rfl) (by kernel_rfl) (by kernel_rfl) (.inr ⟨_, Take.eq (A := cel b1 [.int .i64 p.id, .bool p.more, .int .i64 p.off, .int .i64 p.ttl, .int .i64 p.proto, .int .u8 p.s0, .int .u8 p.s1, .int .u8 p.s2, .int .u8 p.s3, .int .u8 p.d0, .int .u8 p.d1, .int .u8 p.d2, .int .u8 p.d3, .string p.data] 32)⟩) (opv_move rfl) rfl ?_
  first
    | refine R_pure 1 rfl (by kernel_rfl) (by kernel_rfl) (by kernel_rfl) (by kernel_rfl) (.inr ⟨_, Take.eq (A := cel b1 [.int .i64 p.id, .bool p.more, .int .i64 p.off, .int .i64 p.ttl, .int .i64 p.proto, .int .u8 p.s0, .int .u8 p.s1, .int .u8 p.s2, .int .u8 p.s3, .int .u8 p.d0, .int .u8 p.d1, .int .u8 p.d2, .int .u8 p.d3, .string p.data] 32)⟩) (opv_fieldAddr0 rfl) rfl ?_
    | refine R_pure 1 rfl (by kernel_rfl) (by kernel_rfl) (by kernel_rfl) (by kernel_rfl) (.inr ⟨_, Take.eq (A := cel b1 [.int .i64 p.id, .bool p.more, .int .i64 p.off, .int .i64 p.ttl, .int .i64 p.proto, .int .u8 p.s0, .int .u8 p.s1, .int .u8 p.s2, .int .u8 p.s3, .int .u8 p.d0, .int .u8 p.d1, .int .u8 p.d2, .int .u8 p.d3, .string p.data] 32)⟩) (opv_fieldAddr rfl) rfl ?_
  refine R_pure 2 rfl (by kernel_rfl) (by kernel_rfl) (by kernel_rfl) (by kernel_rfl) (.inr ⟨_, Take.eq (A := cel b1 [.int .i64 p.id, .bool p.more, .int .i64 p.off, .int .i64 p.ttl, .int .i64 p.proto, .int .u8 p.s0, .int .u8 p.s1, .int .u8 p.s2, .int .u8 p.s3, .int .u8 p.d0, .int .u8 p.d1, .int .u8 p.d2, .int .u8 p.d3, .string p.data] 32)⟩) (opv_sliceA rfl) rfl ?_
  refine R_pure 3 rfl (by kernel_rfl) (by kernel_rfl) (by kernel_rfl) (by kernel_rfl) (.inr ⟨_, Take.eq (A := cel b1 [.int .i64 p.id, .bool p.more, .int .i64 p.off, .int .i64 p.ttl, .int .i64 p.proto, .int .u8 p.s0, .int .u8 p.s1, .int .u8 p.s2, .int .u8 p.s3, .int .u8 p.d0, .int .u8 p.d1, .int .u8 p.d2, .int .u8 p.d3, .string p.data] 32)⟩) (opv_b2sC [p.s0, p.s1, p.s2, p.s3] rfl rfl rfl hp.src) rfl ?_
  first
    | refine R_pure 4 rfl (by kernel_rfl) (by kernel_rfl) (by kernel_rfl) (by kernel_rfl) (.inr ⟨_, Take.eq (A := cel b1 [.int .i64 p.id, .bool p.more, .int .i64 p.off, .int .i64 p.ttl, .int .i64 p.proto, .int .u8 p.s0, .int .u8 p.s1, .int .u8 p.s2, .int .u8 p.s3, .int .u8 p.d0, .int .u8 p.d1, .int .u8 p.d2, .int .u8 p.d3, .string p.data] 32)⟩) (opv_fieldAddr0 rfl) rfl ?_
    | refine R_pure 4 rfl (by kernel_rfl) (by kernel_rfl) (by kernel_rfl) (by kernel_rfl) (.inr ⟨_, Take.eq (A := cel b1 [.int .i64 p.id, .bool p.more, .int .i64 p.off, .int .i64 p.ttl, .int .i64 p.proto, .int .u8 p.s0, .int .u8 p.s1, .int .u8 p.s2, .int .u8 p.s3, .int .u8 p.d0, .int .u8 p.d1, .int .u8 p.d2, .int .u8 p.d3, .string p.data] 32)⟩) (opv_fieldAddr rfl) rfl ?_
  refine R_pure 5 rfl (by kernel_rfl) (by kernel_rfl) (by kernel_rfl) (by kernel_rfl) (.inr ⟨_, Take.eq (A := cel b1 [.int .i64 p.id, .bool p.more, .int .i64 p.off, .int .i64 p.ttl, .int .i64 p.proto, .int .u8 p.s0, .int .u8 p.s1, .int .u8 p.s2, .int .u8 p.s3, .int .u8 p.d0, .int .u8 p.d1, .int .u8 p.d2, .int .u8 p.d3, .string p.data] 32)⟩) (opv_sliceA rfl) rfl ?_
  refine R_pure 6 rfl (by kernel_rfl) (by kernel_rfl) (by kernel_rfl) (by kernel_rfl) (.inr ⟨_, Take.eq (A := cel b1 [.int .i64 p.id, .bool p.more, .int .i64 p.off, .int .i64 p.ttl, .int .i64 p.proto, .int .u8 p.s0, .int .u8 p.s1, .int .u8 p.s2, .int .u8 p.s3, .int .u8 p.d0, .int .u8 p.d1, .int .u8 p.d2, .int .u8 p.d3, .string p.data] 32)⟩) (opv_b2sC [p.d0, p.d1, p.d2, p.d3] rfl rfl rfl hp.dst) rfl ?_
  refine R_pure 7 rfl (by kernel_rfl) (by kernel_rfl) (by kernel_rfl) (by kernel_rfl) (.inr ⟨_, Take.eq (A := cel b1 [.int .i64 p.id, .bool p.more, .int .i64 p.off, .int .i64 p.ttl, .int .i64 p.proto, .int .u8 p.s0, .int .u8 p.s1, .int .u8 p.s2, .int .u8 p.s3, .int .u8 p.d0, .int .u8 p.d1, .int .u8 p.d2, .int .u8 p.d3, .string p.data] 32)⟩) ((opv_addS rfl rfl (by rw [bytesL_size, bytesL_size]; show 4 + 4 ≤ 9223372036854775807; decide)).as (v' := .string (hB p)) (congrArg Value.string (hB_eq p))) rfl ?_
  refine R_only 8 rfl rfl (by kernel_rfl) (opx_call0 (WText_ok w (be 69 1 ++ be 0 1 ++ be nn 2 ++ be p.id.toNat 2 ++ be (partN p) 2 ++ be p.ttl.toNat 1 ++ be p.proto.toNat 1 ++ be 0 2) (hB p) (by simp only [ByteArray.size_append, be_size, bytesL_size]; first | decide | omega) (by rw [hB_size]; decide)) rfl rfl rfl) (fun _ _ => ⟨_, Take.eq (A := cel b1 [.int .i64 p.id, .bool p.more, .int .i64 p.off, .int .i64 p.ttl, .int .i64 p.proto, .int .u8 p.s0, .int .u8 p.s1, .int .u8 p.s2, .int .u8 p.s3, .int .u8 p.d0, .int .u8 p.d1, .int .u8 p.d2, .int .u8 p.d3, .string p.data] 32)⟩) (.inr fun _ _ => ⟨_, Take.eq (A := cel b1 [.int .i64 p.id, .bool p.more, .int .i64 p.off, .int .i64 p.ttl, .int .i64 p.proto, .int .u8 p.s0, .int .u8 p.s1, .int .u8 p.s2, .int .u8 p.s3, .int .u8 p.d0, .int .u8 p.d1, .int .u8 p.d2, .int .u8 p.d3, .string p.data] 32)⟩) (fun _ _ => ?_)
  refine R_done (by kernel_rfl) ?_
  refine K_then ?_
  refine J_seq ?_
  rw [h20_zero]
  refine J_region ?_
  refine L_v (opv_move rfl) rfl ?_
  refine L_x rfl (opx_call0 (Bytes_ok w (h20 p nn 0)) rfl rfl rfl) (fun _ _ => ?_)
  refine L_v (opv_move rfl) rfl ?_
  refine L_v (opv_extract rfl rfl) rfl ?_
  refine L_v (opv_extract rfl rfl) rfl ?_
  refine L_v (opv_assign rfl) rfl ?_
  refine L_v (opv_assign rfl) rfl ?_
  refine L_nil ?_
  refine K_then ?_
  refine J_seq ?_
  refine J_block ?_
  refine J_seq ?_
  refine J_region ?_
  refine L_v (opv_move rfl) rfl ?_
  refine L_v ((opv_neq rfl rfl).bool_f (by decide)) rfl ?_
  refine L_v (opv_assign rfl) rfl ?_
  refine L_nil ?_
  refine K_then ?_
  refine J_cond_false rfl ?_
  refine J_seq ?_
  refine J_region ?_
  first
    | refine L_v (opv_fieldAddr0 rfl) rfl ?_
    | refine L_v (opv_fieldAddr rfl) rfl ?_
  refine L_v (opv_load rfl (Rd.look rfl)) rfl ?_
  first
    | refine L_v (opv_lenL rfl) rfl ?_
    | refine L_v (opv_lenS rfl) rfl ?_
  refine L_v ((opv_gtr rfl rfl).bool_t (by omega)) rfl ?_
  refine L_v (opv_assign rfl) rfl ?_
  refine L_nil ?_
  refine K_then ?_
  refine J_cond_true rfl ?_
  refine J_seq ?_
  refine J_region ?_
  refine L_v (opv_assign rfl) rfl ?_
  refine L_v (opv_assign rfl) rfl ?_
  refine L_nil ?_
  refine K_then ?_
  refine J_ret ?_
  refine K_block_ret ?_
  refine K_then_ret ?_
  exact K_ret2 rfl rfl rfl () trivial rfl Ent.take

set_option maxHeartbeats 1000000 in
theorem Ip4Encode_ok (p : Pk) (hp : okPk p) (h : fieldsB p) (hd : p.data.size ≤ 65515) : FSpec Try.prog 38 #[.agg [.int .i64 p.id, .bool p.more, .int .i64 p.off, .int .i64 p.ttl, .int .i64 p.proto, .int .u8 p.s0, .int .u8 p.s1, .int .u8 p.s2, .int .u8 p.s3, .int .u8 p.d0, .int .u8 p.d1, .int .u8 p.d2, .int .u8 p.d3, .string p.data].toArray] (emp) (fun _ : Unit => True) (fun _ => .tuple #[.string (pkt p), .int .i64 0]) (fun _ => emp) := by
  obtain ⟨nn, hnn1⟩ : ∃ nn : Nat, nn = min (20 + p.data.size) 65535 := ⟨_, rfl⟩
  have hnn : nn ≤ 65535 := by omega
  have hi := hp.i
  obtain ⟨hf1, hf2, hf3, hf4⟩ := h
  have hzh := h20_size p nn 0
  have hzb := hB_size p
  have hza := hA_size p nn
  refine FSpec.enter' Try.func38 rfl Try.ntmps38 rfl fun σ F => ?_
  refine J_emp ?_
  refine J_seq ?_
  refine J_region ?_
  refine L_x rfl (opx_box (l := [.int .i64 p.id, .bool p.more, .int .i64 p.off, .int .i64 p.ttl, .int .i64 p.proto, .int .u8 p.s0, .int .u8 p.s1, .int .u8 p.s2, .int .u8 p.s3, .int .u8 p.d0, .int .u8 p.d1, .int .u8 p.d2, .int .u8 p.d3, .string p.data]) rfl rfl) (fun b1 _ => ?_)
  refine L_v (opv_assign rfl) rfl ?_
  refine L_v (opv_assign rfl) rfl ?_
  refine L_nil ?_
  refine K_then ?_
  refine J_seq ?_
  refine J_region ?_
  refine L_v (opv_build rfl) rfl ?_
  refine L_x rfl (opx_box rfl rfl) (fun w _ => ?_)
  refine L_v (opv_assign rfl) rfl ?_
  refine L_nil ?_
  refine K_then ?_
  refine J_seq ?_
  refine J_imp _ WrP_new ?_
  refine J_region ?_
  refine L_v (opv_move rfl) rfl ?_
  refine L_x rfl (opx_call0 (U8_n w (bytesL []) 69 (by decide) (by decide)) rfl rfl rfl) (fun _ _ => ?_)
  rw [nil_app]
  refine L_nil ?_
  refine K_then ?_
  refine J_seq ?_
  refine J_region ?_
  refine L_v (opv_move rfl) rfl ?_
  refine L_x rfl (opx_call0 (U8_n w (be 69 1) 0 (by decide) (by simp only [ByteArray.size_append, be_size, bytesL_size]; first | decide | omega)) rfl rfl rfl) (fun _ _ => ?_)
  refine L_nil ?_
  refine K_then ?_
  refine J_seq ?_
  refine J_region ?_
  refine L_v (opv_move rfl) rfl ?_
  first
    | refine L_v (opv_fieldAddr0 rfl) rfl ?_
    | refine L_v (opv_fieldAddr rfl) rfl ?_
  refine L_v (opv_load rfl (Rd.look rfl)) rfl ?_
  first
    | refine L_v (opv_lenL rfl) rfl ?_
    | refine L_v (opv_lenS rfl) rfl ?_
  first
    | refine L_v (opv_add64 rfl rfl (by omega)) rfl ?_
    | refine L_v (opv_addS rfl rfl (by omega)) rfl ?_
    | refine L_v (opv_add rfl rfl) rfl ?_
  refine L_v ((opv_min rfl rfl).as (v' := .int .i64 (nn : Nat)) (congrArg (Value.int .i64) (by split <;> omega))) rfl ?_
  refine L_x rfl (opx_call0 (U16_ok w (be 69 1 ++ be 0 1) nn hnn (by simp only [ByteArray.size_append, be_size, bytesL_size]; first | decide | omega)) rfl rfl rfl) (fun _ _ => ?_)
  refine L_nil ?_
  refine K_then ?_
  refine J_seq ?_
  refine J_region ?_
  refine L_v (opv_move rfl) rfl ?_
  first
    | refine L_v (opv_fieldAddr0 rfl) rfl ?_
    | refine L_v (opv_fieldAddr rfl) rfl ?_
  refine L_v (opv_load rfl (Rd.look rfl)) rfl ?_
  refine L_x rfl (opx_call0 (U16_n w (be 69 1 ++ be 0 1 ++ be nn 2) p.id hf1 (by simp only [ByteArray.size_append, be_size, bytesL_size]; first | decide | omega)) rfl rfl rfl) (fun _ _ => ?_)
  refine L_nil ?_
  refine K_then ?_
  refine J_seq ?_
  refine J_steps (cel b1 [.int .i64 p.id, .bool p.more, .int .i64 p.off, .int .i64 p.ttl, .int .i64 p.proto, .int .u8 p.s0, .int .u8 p.s1, .int .u8 p.s2, .int .u8 p.s3, .int .u8 p.d0, .int .u8 p.d1, .int .u8 p.d2, .int .u8 p.d3, .string p.data] 32) (cel b1 [.int .i64 p.id, .bool p.more, .int .i64 p.off, .int .i64 p.ttl, .int .i64 p.proto, .int .u8 p.s0, .int .u8 p.s1, .int .u8 p.s2, .int .u8 p.s3, .int .u8 p.d0, .int .u8 p.d1, .int .u8 p.d2, .int .u8 p.d3, .string p.data] 32) [] Try.mixed ?_
  refine R_pure 0 rfl (by kernel_rfl) (by kernel_rfl) (by kernel_rfl) (by kernel_rfl) (.inr ⟨_, Take.eq (A := cel b1 [.int .i64 p.id, .bool p.more, .int .i64 p.off, .int .i64 p.ttl, .int .i64 p.proto, .int .u8 p.s0, .int .u8 p.s1, .int .u8 p.s2, .int .u8 p.s3, .int .u8 p.d0, .int .u8 p.d1, .int .u8 p.d2, .int .u8 p.d3, .string p.data] 32)⟩) (opv_move rfl) rfl ?_
  first
    | refine R_pure 2 rfl (by kernel_rfl) (by kernel_rfl) (by kernel_rfl) (by kernel_rfl) (.inr ⟨_, Take.eq (A := cel b1 [.int .i64 p.id, .bool p.more, .int .i64 p.off, .int .i64 p.ttl, .int .i64 p.proto, .int .u8 p.s0, .int .u8 p.s1, .int .u8 p.s2, .int .u8 p.s3, .int .u8 p.d0, .int .u8 p.d1, .int .u8 p.d2, .int .u8 p.d3, .string p.data] 32)⟩) (opv_fieldAddr0 rfl) rfl ?_
    | refine R_pure 2 rfl (by kernel_rfl) (by kernel_rfl) (by kernel_rfl) (by kernel_rfl) (.inr ⟨_, Take.eq (A := cel b1 [.int .i64 p.id, .bool p.more, .int .i64 p.off, .int .i64 p.ttl, .int .i64 p.proto, .int .u8 p.s0, .int .u8 p.s1, .int .u8 p.s2, .int .u8 p.s3, .int .u8 p.d0, .int .u8 p.d1, .int .u8 p.d2, .int .u8 p.d3, .string p.data] 32)⟩) (opv_fieldAddr rfl) rfl ?_
  refine R_take 3 rfl (by kernel_rfl) (by kernel_rfl) (by kernel_rfl) (by kernel_rfl) (by kernel_rfl) (opv_load rfl (Rd.look rfl)) rfl ?_
  first
    | refine R_pure 5 rfl (by kernel_rfl) (by kernel_rfl) (by kernel_rfl) (by kernel_rfl) (.inr ⟨_, Take.eq (A := cel b1 [.int .i64 p.id, .bool p.more, .int .i64 p.off, .int .i64 p.ttl, .int .i64 p.proto, .int .u8 p.s0, .int .u8 p.s1, .int .u8 p.s2, .int .u8 p.s3, .int .u8 p.d0, .int .u8 p.d1, .int .u8 p.d2, .int .u8 p.d3, .string p.data] 32)⟩) (opv_fieldAddr0 rfl) rfl ?_
    | refine R_pure 5 rfl (by kernel_rfl) (by kernel_rfl) (by kernel_rfl) (by kernel_rfl) (.inr ⟨_, Take.eq (A := cel b1 [.int .i64 p.id, .bool p.more, .int .i64 p.off, .int .i64 p.ttl, .int .i64 p.proto, .int .u8 p.s0, .int .u8 p.s1, .int .u8 p.s2, .int .u8 p.s3, .int .u8 p.d0, .int .u8 p.d1, .int .u8 p.d2, .int .u8 p.d3, .string p.data] 32)⟩) (opv_fieldAddr rfl) rfl ?_
  refine R_take 6 rfl (by kernel_rfl) (by kernel_rfl) (by kernel_rfl) (by kernel_rfl) (by kernel_rfl) (opv_load rfl (Rd.look rfl)) rfl ?_
  refine R_only 1 rfl rfl (by kernel_rfl) (opx_call0 (parts_spec) rfl rfl rfl) (fun _ _ => ⟨_, Take.eq (A := cel b1 [.int .i64 p.id, .bool p.more, .int .i64 p.off, .int .i64 p.ttl, .int .i64 p.proto, .int .u8 p.s0, .int .u8 p.s1, .int .u8 p.s2, .int .u8 p.s3, .int .u8 p.d0, .int .u8 p.d1, .int .u8 p.d2, .int .u8 p.d3, .string p.data] 32)⟩) (.inr fun _ _ => ⟨_, Take.eq (A := cel b1 [.int .i64 p.id, .bool p.more, .int .i64 p.off, .int .i64 p.ttl, .int .i64 p.proto, .int .u8 p.s0, .int .u8 p.s1, .int .u8 p.s2, .int .u8 p.s3, .int .u8 p.d0, .int .u8 p.d1, .int .u8 p.d2, .int .u8 p.d3, .string p.data] 32)⟩) (fun bp _ => ?_)
  refine R_only 4 rfl rfl (by kernel_rfl) (opx_call0 (flag_spec p.more) rfl rfl rfl) (fun _ _ => ⟨_, Take.eq (A := cel b1 [.int .i64 p.id, .bool p.more, .int .i64 p.off, .int .i64 p.ttl, .int .i64 p.proto, .int .u8 p.s0, .int .u8 p.s1, .int .u8 p.s2, .int .u8 p.s3, .int .u8 p.d0, .int .u8 p.d1, .int .u8 p.d2, .int .u8 p.d3, .string p.data] 32)⟩) (.inr fun _ _ => ⟨_, Take.eq (A := cel b1 [.int .i64 p.id, .bool p.more, .int .i64 p.off, .int .i64 p.ttl, .int .i64 p.proto, .int .u8 p.s0, .int .u8 p.s1, .int .u8 p.s2, .int .u8 p.s3, .int .u8 p.d0, .int .u8 p.d1, .int .u8 p.d2, .int .u8 p.d3, .string p.data] 32)⟩) (fun _ _ => ?_)
  refine Rg_emp ?_
  refine R_only 7 rfl rfl (by kernel_rfl) (opx_buildSliceL rfl rfl rfl (by omega) (by simp [Value.cells]) rfl) (fun _ _ => ⟨_, Take.eq (A := cel b1 [.int .i64 p.id, .bool p.more, .int .i64 p.off, .int .i64 p.ttl, .int .i64 p.proto, .int .u8 p.s0, .int .u8 p.s1, .int .u8 p.s2, .int .u8 p.s3, .int .u8 p.d0, .int .u8 p.d1, .int .u8 p.d2, .int .u8 p.d3, .string p.data] 32)⟩) (.inr fun _ _ => ⟨_, Take.eq (A := cel b1 [.int .i64 p.id, .bool p.more, .int .i64 p.off, .int .i64 p.ttl, .int .i64 p.proto, .int .u8 p.s0, .int .u8 p.s1, .int .u8 p.s2, .int .u8 p.s3, .int .u8 p.d0, .int .u8 p.d1, .int .u8 p.d2, .int .u8 p.d3, .string p.data] 32)⟩) (fun b32 _ => ?_)
  refine R_only 8 rfl rfl (by kernel_rfl) (opx_call0 (Bits3_fit w bp b32 (be 69 1 ++ be 0 1 ++ be nn 2 ++ be p.id.toNat 2) p hp hf2 (by simp only [ByteArray.size_append, be_size, bytesL_size]; first | decide | omega)) rfl rfl rfl) (fun _ _ => ⟨_, Take.eq (A := cel b1 [.int .i64 p.id, .bool p.more, .int .i64 p.off, .int .i64 p.ttl, .int .i64 p.proto, .int .u8 p.s0, .int .u8 p.s1, .int .u8 p.s2, .int .u8 p.s3, .int .u8 p.d0, .int .u8 p.d1, .int .u8 p.d2, .int .u8 p.d3, .string p.data] 32)⟩) (.inr fun _ _ => ⟨_, Take.eq (A := cel b1 [.int .i64 p.id, .bool p.more, .int .i64 p.off, .int .i64 p.ttl, .int .i64 p.proto, .int .u8 p.s0, .int .u8 p.s1, .int .u8 p.s2, .int .u8 p.s3, .int .u8 p.d0, .int .u8 p.d1, .int .u8 p.d2, .int .u8 p.d3, .string p.data] 32)⟩) (fun _ _ => ?_)
  refine R_done (by kernel_rfl) ?_
  refine K_then ?_
  refine J_seq ?_
  refine J_region ?_
  refine L_v (opv_move rfl) rfl ?_
  first
    | refine L_v (opv_fieldAddr0 rfl) rfl ?_
    | refine L_v (opv_fieldAddr rfl) rfl ?_
  refine L_v (opv_load rfl (Rd.look rfl)) rfl ?_
  refine L_x rfl (opx_call0 (U8_z w (be 69 1 ++ be 0 1 ++ be nn 2 ++ be p.id.toNat 2 ++ be (partN p) 2) p.ttl hf3 (by simp only [ByteArray.size_append, be_size, bytesL_size]; first | decide | omega)) rfl rfl rfl) (fun _ _ => ?_)
  refine L_nil ?_
  refine K_then ?_
  refine J_seq ?_
  refine J_region ?_
  refine L_v (opv_move rfl) rfl ?_
  first
    | refine L_v (opv_fieldAddr0 rfl) rfl ?_
    | refine L_v (opv_fieldAddr rfl) rfl ?_
  refine L_v (opv_load rfl (Rd.look rfl)) rfl ?_
  refine L_x rfl (opx_call0 (U8_z w (be 69 1 ++ be 0 1 ++ be nn 2 ++ be p.id.toNat 2 ++ be (partN p) 2 ++ be p.ttl.toNat 1) p.proto hf4 (by simp only [ByteArray.size_append, be_size, bytesL_size]; first | decide | omega)) rfl rfl rfl) (fun _ _ => ?_)
  refine L_nil ?_
  refine K_then ?_
  refine J_seq ?_
  refine J_region ?_
  refine L_v (opv_move rfl) rfl ?_
  refine L_x rfl (opx_call0 (U16_ok w (be 69 1 ++ be 0 1 ++ be nn 2 ++ be p.id.toNat 2 ++ be (partN p) 2 ++ be p.ttl.toNat 1 ++ be p.proto.toNat 1) 0 (by decide) (by simp only [ByteArray.size_append, be_size, bytesL_size]; first | decide | omega)) rfl rfl rfl) (fun _ _ => ?_)
  refine L_nil ?_
  refine K_then ?_
  refine J_seq ?_
  refine J_steps (cel b1 [.int .i64 p.id, .bool p.more, .int .i64 p.off, .int .i64 p.ttl, .int .i64 p.proto, .int .u8 p.s0, .int .u8 p.s1, .int .u8 p.s2, .int .u8 p.s3, .int .u8 p.d0, .int .u8 p.d1, .int .u8 p.d2, .int .u8 p.d3, .string p.data] 32) (cel b1 [.int .i64 p.id, .bool p.more, .int .i64 p.off, .int .i64 p.ttl, .int .i64 p.proto, .int .u8 p.s0, .int .u8 p.s1, .int .u8 p.s2, .int .u8 p.s3, .int .u8 p.d0, .int .u8 p.d1, .int .u8 p.d2, .int .u8 p.d3, .string p.data] 32) [] Try.mixed ?_
  refine R_pure 0 rfl (by kernel_rfl) (by kernel_rfl) (by kernel_rfl) (by kernel_rfl) (.inr ⟨_, Take.eq (A := cel b1 [.int .i64 p.id, .bool p.more, .int .i64 p.off, .int .i64 p.ttl, .int .i64 p.proto, .int .u8 p.s0, .int .u8 p.s1, .int .u8 p.s2, .int .u8 p.s3, .int .u8 p.d0, .int .u8 p.d1, .int .u8 p.d2, .int .u8 p.d3, .string p.data] 32)⟩) (opv_move rfl) rfl ?_
  first
    | refine R_pure 1 rfl (by kernel_rfl) (by kernel_rfl) (by kernel_rfl) (by kernel_rfl) (.inr ⟨_, Take.eq (A := cel b1 [.int .i64 p.id, .bool p.more, .int .i64 p.off, .int .i64 p.ttl, .int .i64 p.proto, .int .u8 p.s0, .int .u8 p.s1, .int .u8 p.s2, .int .u8 p.s3, .int .u8 p.d0, .int .u8 p.d1, .int .u8 p.d2, .int .u8 p.d3, .string p.data] 32)⟩) (opv_fieldAddr0 rfl) rfl ?_
    | refine R_pure 1 rfl (by kernel_rfl) (by kernel_rfl) (by kernel_rfl) (by kernel_rfl) (.inr ⟨_, Take.eq (A := cel b1 [.int .i64 p.id, .bool p.more, .int .i64 p.off, .int .i64 p.ttl, .int .i64 p.proto, .int .u8 p.s0, .int .u8 p.s1, .int .u8 p.s2, .int .u8 p.s3, .int .u8 p.d0, .int .u8 p.d1, .int .u8 p.d2, .int .u8 p.d3, .string p.data] 32)⟩) (opv_fieldAddr rfl) rfl ?_
  refine R_pure 2 rfl (by kernel_rfl) (by kernel_rfl) (by kernel_rfl) (by kernel_rfl) (.inr ⟨_, Take.eq (A := cel b1 [.int .i64 p.id, .bool p.more, .int .i64 p.off, .int .i64 p.ttl, .int .i64 p.proto, .int .u8 p.s0, .int .u8 p.s1, .int .u8 p.s2, .int .u8 p.s3, .int .u8 p.d0, .int .u8 p.d1, .int .u8 p.d2, .int .u8 p.d3, .string p.data] 32)⟩) (opv_sliceA rfl) rfl ?_
  refine R_pure 3 rfl (by kernel_rfl) (by kernel_rfl) (by kernel_rfl) (by kernel_rfl) (.inr ⟨_, Take.eq (A := cel b1 [.int .i64 p.id, .bool p.more, .int .i64 p.off, .int .i64 p.ttl, .int .i64 p.proto, .int .u8 p.s0, .int .u8 p.s1, .int .u8 p.s2, .int .u8 p.s3, .int .u8 p.d0, .int .u8 p.d1, .int .u8 p.d2, .int .u8 p.d3, .string p.data] 32)⟩) (opv_b2sC [p.s0, p.s1, p.s2, p.s3] rfl rfl rfl hp.src) rfl ?_
  first
    | refine R_pure 4 rfl (by kernel_rfl) (by kernel_rfl) (by kernel_rfl) (by kernel_rfl) (.inr ⟨_, Take.eq (A := cel b1 [.int .i64 p.id, .bool p.more, .int .i64 p.off, .int .i64 p.ttl, .int .i64 p.proto, .int .u8 p.s0, .int .u8 p.s1, .int .u8 p.s2, .int .u8 p.s3, .int .u8 p.d0, .int .u8 p.d1, .int .u8 p.d2, .int .u8 p.d3, .string p.data] 32)⟩) (opv_fieldAddr0 rfl) rfl ?_
    | refine R_pure 4 rfl (by kernel_rfl) (by kernel_rfl) (by kernel_rfl) (by kernel_rfl) (.inr ⟨_, Take.eq (A := cel b1 [.int .i64 p.id, .bool p.more, .int .i64 p.off, .int .i64 p.ttl, .int .i64 p.proto, .int .u8 p.s0, .int .u8 p.s1, .int .u8 p.s2, .int .u8 p.s3, .int .u8 p.d0, .int .u8 p.d1, .int .u8 p.d2, .int .u8 p.d3, .string p.data] 32)⟩) (opv_fieldAddr rfl) rfl ?_
  refine R_pure 5 rfl (by kernel_rfl) (by kernel_rfl) (by kernel_rfl) (by kernel_rfl) (.inr ⟨_, Take.eq (A := cel b1 [.int .i64 p.id, .bool p.more, .int .i64 p.off, .int .i64 p.ttl, .int .i64 p.proto, .int .u8 p.s0, .int .u8 p.s1, .int .u8 p.s2, .int .u8 p.s3, .int .u8 p.d0, .int .u8 p.d1, .int .u8 p.d2, .int .u8 p.d3, .string p.data] 32)⟩) (opv_sliceA rfl) rfl ?_
  refine R_pure 6 rfl (by kernel_rfl) (by kernel_rfl) (by kernel_rfl) (by kernel_rfl) (.inr ⟨_, Take.eq (A := cel b1 [.int .i64 p.id, .bool p.more, .int .i64 p.off, .int .i64 p.ttl, .int .i64 p.proto, .int .u8 p.s0, .int .u8 p.s1, .int .u8 p.s2, .int .u8 p.s3, .int .u8 p.d0, .int .u8 p.d1, .int .u8 p.d2, .int .u8 p.d3, .string p.data] 32)⟩) (opv_b2sC [p.d0, p.d1, p.d2, p.d3] rfl rfl rfl hp.dst) rfl ?_
  refine R_pure 7 rfl (by kernel_rfl) (by kernel_rfl) (by kernel_rfl) (by kernel_rfl) (.inr ⟨_, Take.eq (A := cel b1 [.int .i64 p.id, .bool p.more, .int .i64 p.off, .int .i64 p.ttl, .int .i64 p.proto, .int .u8 p.s0, .int .u8 p.s1, .int .u8 p.s2, .int .u8 p.s3, .int .u8 p.d0, .int .u8 p.d1, .int .u8 p.d2, .int .u8 p.d3, .string p.data] 32)⟩) ((opv_addS rfl rfl (by rw [bytesL_size, bytesL_size]; show 4 + 4 ≤ 9223372036854775807; decide)).as (v' := .string (hB p)) (congrArg Value.string (hB_eq p))) rfl ?_
  refine R_only 8 rfl rfl (by kernel_rfl) (opx_call0 (WText_ok w (be 69 1 ++ be 0 1 ++ be nn 2 ++ be p.id.toNat 2 ++ be (partN p) 2 ++ be p.ttl.toNat 1 ++ be p.proto.toNat 1 ++ be 0 2) (hB p) (by simp only [ByteArray.size_append, be_size, bytesL_size]; first | decide | omega) (by rw [hB_size]; decide)) rfl rfl rfl) (fun _ _ => ⟨_, Take.eq (A := cel b1 [.int .i64 p.id, .bool p.more, .int .i64 p.off, .int .i64 p.ttl, .int .i64 p.proto, .int .u8 p.s0, .int .u8 p.s1, .int .u8 p.s2, .int .u8 p.s3, .int .u8 p.d0, .int .u8 p.d1, .int .u8 p.d2, .int .u8 p.d3, .string p.data] 32)⟩) (.inr fun _ _ => ⟨_, Take.eq (A := cel b1 [.int .i64 p.id, .bool p.more, .int .i64 p.off, .int .i64 p.ttl, .int .i64 p.proto, .int .u8 p.s0, .int .u8 p.s1, .int .u8 p.s2, .int .u8 p.s3, .int .u8 p.d0, .int .u8 p.d1, .int .u8 p.d2, .int .u8 p.d3, .string p.data] 32)⟩) (fun _ _ => ?_)
  refine R_done (by kernel_rfl) ?_
  refine K_then ?_
  refine J_seq ?_
  rw [h20_zero]
  refine J_region ?_
  refine L_v (opv_move rfl) rfl ?_
  refine L_x rfl (opx_call0 (Bytes_ok w (h20 p nn 0)) rfl rfl rfl) (fun _ _ => ?_)
  refine L_v (opv_move rfl) rfl ?_
  refine L_v (opv_extract rfl rfl) rfl ?_
  refine L_v (opv_extract rfl rfl) rfl ?_
  refine L_v (opv_assign rfl) rfl ?_
  refine L_v (opv_assign rfl) rfl ?_
  refine L_nil ?_
  refine K_then ?_
  refine J_seq ?_
  refine J_block ?_
  refine J_seq ?_
  refine J_region ?_
  refine L_v (opv_move rfl) rfl ?_
  refine L_v ((opv_neq rfl rfl).bool_f (by decide)) rfl ?_
  refine L_v (opv_assign rfl) rfl ?_
  refine L_nil ?_
  refine K_then ?_
  refine J_cond_false rfl ?_
  refine J_seq ?_
  refine J_region ?_
  first
    | refine L_v (opv_fieldAddr0 rfl) rfl ?_
    | refine L_v (opv_fieldAddr rfl) rfl ?_
  refine L_v (opv_load rfl (Rd.look rfl)) rfl ?_
  first
    | refine L_v (opv_lenL rfl) rfl ?_
    | refine L_v (opv_lenS rfl) rfl ?_
  refine L_v ((opv_gtr rfl rfl).bool_f (by omega)) rfl ?_
  refine L_v (opv_assign rfl) rfl ?_
  refine L_nil ?_
  refine K_then ?_
  refine J_cond_false rfl ?_
  refine J_skip ?_
  refine K_block ?_
  refine K_then ?_
  refine J_seq ?_
  refine J_region ?_
  refine L_v (opv_build rfl) rfl ?_
  refine L_x rfl (opx_box rfl rfl) (fun w2 _ => ?_)
  refine L_v (opv_assign rfl) rfl ?_
  refine L_nil ?_
  refine K_then ?_
  refine J_seq ?_
  refine J_imp _ WrP_new ?_
  refine J_region ?_
  refine L_v (opv_move rfl) rfl ?_
  refine L_v (opv_move rfl) rfl ?_
  refine L_v ((opv_sliceShi rfl rfl (by omega)).as (v' := .string (hA p nn)) (congrArg Value.string (h20_a p nn 0))) rfl ?_
  refine L_x rfl (opx_call0 (WText_ok w2 (bytesL []) (hA p nn) (by decide) (by omega)) rfl rfl rfl) (fun _ _ => ?_)
  refine L_nil ?_
  refine K_then ?_
  refine J_seq ?_
  rw [nil_app]
  refine J_region ?_
  refine L_v (opv_move rfl) rfl ?_
  refine L_v (opv_move rfl) rfl ?_
  refine L_x rfl (opx_call0 (Ones_spec (h20 p nn 0) (by omega)) rfl rfl rfl) (fun _ _ => ?_)
  refine L_emp ?_
  refine L_x rfl (opx_call0 (U16_ok w2 (hA p nn) (ones (h20 p nn 0)) (ones_le _) (by omega)) rfl rfl rfl) (fun _ _ => ?_)
  refine L_nil ?_
  refine K_then ?_
  refine J_seq ?_
  refine J_steps (cel b1 [.int .i64 p.id, .bool p.more, .int .i64 p.off, .int .i64 p.ttl, .int .i64 p.proto, .int .u8 p.s0, .int .u8 p.s1, .int .u8 p.s2, .int .u8 p.s3, .int .u8 p.d0, .int .u8 p.d1, .int .u8 p.d2, .int .u8 p.d3, .string p.data] 32) (cel b1 [.int .i64 p.id, .bool p.more, .int .i64 p.off, .int .i64 p.ttl, .int .i64 p.proto, .int .u8 p.s0, .int .u8 p.s1, .int .u8 p.s2, .int .u8 p.s3, .int .u8 p.d0, .int .u8 p.d1, .int .u8 p.d2, .int .u8 p.d3, .string p.data] 32) [] Try.mixed ?_
  refine R_pure 0 rfl (by kernel_rfl) (by kernel_rfl) (by kernel_rfl) (by kernel_rfl) (.inr ⟨_, Take.eq (A := cel b1 [.int .i64 p.id, .bool p.more, .int .i64 p.off, .int .i64 p.ttl, .int .i64 p.proto, .int .u8 p.s0, .int .u8 p.s1, .int .u8 p.s2, .int .u8 p.s3, .int .u8 p.d0, .int .u8 p.d1, .int .u8 p.d2, .int .u8 p.d3, .string p.data] 32)⟩) (opv_move rfl) rfl ?_
  refine R_pure 1 rfl (by kernel_rfl) (by kernel_rfl) (by kernel_rfl) (by kernel_rfl) (.inr ⟨_, Take.eq (A := cel b1 [.int .i64 p.id, .bool p.more, .int .i64 p.off, .int .i64 p.ttl, .int .i64 p.proto, .int .u8 p.s0, .int .u8 p.s1, .int .u8 p.s2, .int .u8 p.s3, .int .u8 p.d0, .int .u8 p.d1, .int .u8 p.d2, .int .u8 p.d3, .string p.data] 32)⟩) (opv_move rfl) rfl ?_
  refine R_pure 2 rfl (by kernel_rfl) (by kernel_rfl) (by kernel_rfl) (by kernel_rfl) (.inr ⟨_, Take.eq (A := cel b1 [.int .i64 p.id, .bool p.more, .int .i64 p.off, .int .i64 p.ttl, .int .i64 p.proto, .int .u8 p.s0, .int .u8 p.s1, .int .u8 p.s2, .int .u8 p.s3, .int .u8 p.d0, .int .u8 p.d1, .int .u8 p.d2, .int .u8 p.d3, .string p.data] 32)⟩) ((opv_sliceSlo rfl rfl (by omega)).as (v' := .string (hB p)) ((congrArg (fun k => Value.string ((h20 p nn 0).extract k (h20 p nn 0).size)) (show Int.toNat 12 = 12 from rfl)).trans (congrArg Value.string (h20_b p nn 0)))) rfl ?_
  first
    | refine R_pure 3 rfl (by kernel_rfl) (by kernel_rfl) (by kernel_rfl) (by kernel_rfl) (.inr ⟨_, Take.eq (A := cel b1 [.int .i64 p.id, .bool p.more, .int .i64 p.off, .int .i64 p.ttl, .int .i64 p.proto, .int .u8 p.s0, .int .u8 p.s1, .int .u8 p.s2, .int .u8 p.s3, .int .u8 p.d0, .int .u8 p.d1, .int .u8 p.d2, .int .u8 p.d3, .string p.data] 32)⟩) (opv_fieldAddr0 rfl) rfl ?_
    | refine R_pure 3 rfl (by kernel_rfl) (by kernel_rfl) (by kernel_rfl) (by kernel_rfl) (.inr ⟨_, Take.eq (A := cel b1 [.int .i64 p.id, .bool p.more, .int .i64 p.off, .int .i64 p.ttl, .int .i64 p.proto, .int .u8 p.s0, .int .u8 p.s1, .int .u8 p.s2, .int .u8 p.s3, .int .u8 p.d0, .int .u8 p.d1, .int .u8 p.d2, .int .u8 p.d3, .string p.data] 32)⟩) (opv_fieldAddr rfl) rfl ?_
  refine R_take 4 rfl (by kernel_rfl) (by kernel_rfl) (by kernel_rfl) (by kernel_rfl) (by kernel_rfl) (opv_load rfl (Rd.look rfl)) rfl ?_
  refine R_pure 5 rfl (by kernel_rfl) (by kernel_rfl) (by kernel_rfl) (by kernel_rfl) (.inr ⟨_, Take.eq (A := cel b1 [.int .i64 p.id, .bool p.more, .int .i64 p.off, .int .i64 p.ttl, .int .i64 p.proto, .int .u8 p.s0, .int .u8 p.s1, .int .u8 p.s2, .int .u8 p.s3, .int .u8 p.d0, .int .u8 p.d1, .int .u8 p.d2, .int .u8 p.d3, .string p.data] 32)⟩) (opv_addS rfl rfl (by omega)) rfl ?_
  refine R_only 6 rfl rfl (by kernel_rfl) (opx_call0 (WText_ok w2 (hA p nn ++ be (ones (h20 p nn 0)) 2) (hB p ++ p.data) (by rw [ByteArray.size_append, be_size]; omega) (by rw [ByteArray.size_append]; omega)) rfl rfl rfl) (fun _ _ => ⟨_, Take.eq (A := cel b1 [.int .i64 p.id, .bool p.more, .int .i64 p.off, .int .i64 p.ttl, .int .i64 p.proto, .int .u8 p.s0, .int .u8 p.s1, .int .u8 p.s2, .int .u8 p.s3, .int .u8 p.d0, .int .u8 p.d1, .int .u8 p.d2, .int .u8 p.d3, .string p.data] 32)⟩) (.inr fun _ _ => ⟨_, Take.eq (A := cel b1 [.int .i64 p.id, .bool p.more, .int .i64 p.off, .int .i64 p.ttl, .int .i64 p.proto, .int .u8 p.s0, .int .u8 p.s1, .int .u8 p.s2, .int .u8 p.s3, .int .u8 p.d0, .int .u8 p.d1, .int .u8 p.d2, .int .u8 p.d3, .string p.data] 32)⟩) (fun _ _ => ?_)
  refine R_done (by kernel_rfl) ?_
  refine K_then ?_
  refine J_seq ?_
  rw [pkt_eq p (n := nn) (by omega)]
  refine J_region ?_
  refine L_v (opv_move rfl) rfl ?_
  refine L_x rfl (opx_call0 (Bytes_ok w2 (pkt p)) rfl rfl rfl) (fun _ _ => ?_)
  refine L_v (opv_extract rfl rfl) rfl ?_
  refine L_v (opv_extract rfl rfl) rfl ?_
  refine L_v (opv_assign rfl) rfl ?_
  refine L_v (opv_assign rfl) rfl ?_
  refine L_nil ?_
  refine K_then ?_
  refine J_ret ?_
  exact K_ret2 rfl rfl rfl () trivial rfl Ent.take

end Go.Proofs.Ytjpbpfihacfndaa
