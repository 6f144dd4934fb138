/- The laws QueueOrder, QueueBusy, QueueHigh and QueueNil of the package pitotlaw19 hold for every input: texts of a kind go in order, the wire is never idle while one waits, a high one waits for no other one but one that is going; a nil Out sends nothing. No condition. -/
import Derived.Test.YtpnpdliimidoaaaQf
import Derived.Test.YtpnpdliimidoaaaH
namespace Go.Proofs.Ytpnpdliimidoaaa
open Go.SLA
set_option maxRecDepth 100000
set_option linter.unusedVariables false
set_option linter.unusedSimpArgs false
attribute [local irreducible] J L K QL Rg FSpec OpV OpX Rd Back
attribute [local irreducible] xs
theorem pw_get {α : Type} {R : α → α → Prop} {T : List α} (h : T.Pairwise R) {i j : Nat} {a c : α} (hi : T[i]? = some a) (hj : T[j]? = some c) (hij : i < j) : R a c := by
  have h1 := get_lt hi
  have h2 := get_lt hj
  rw [List.getElem?_eq_getElem h1] at hi
  rw [List.getElem?_eq_getElem h2] at hj
  simp only [Option.some.injEq] at hi hj
  rw [← hi, ← hj]
  exact List.pairwise_iff_getElem.1 h i j h1 h2 hij
theorem opAt_get {xs : List OpQ} {i : Int} (h0 : 0 ≤ i) (h1 : i < xs.length) : xs[i.toNat]? = some (opAt xs i) := by
  have : i.toNat < xs.length := by omega
  unfold opAt
  rw [List.getElem?_eq_getElem this]
  rfl
theorem beq_dec (b c : Bool) : (b == c) = decide (b = c) := by cases b <;> cases c <;> rfl
theorem not_dec (b : Bool) : (!b) = decide (b = false) := by cases b <;> rfl
theorem right19_yes (R0 : HProp) (A : Option Addr) (c : Nat) (xs : List OpQ) (hR : RdS R0 encOpQ 5 A xs) (hn : xs.length ≤ 9223372036854775807) (h : rightQ xs = true) : FSpec Try.prog 27 #[.slice A xs.length c] R0 (fun _ : Unit => True) (fun _ => .bool true) (fun _ => R0) := by
  have := right19_spec R0 A c xs hR hn
  rwa [h] at this
theorem right19_no (R0 : HProp) (A : Option Addr) (c : Nat) (xs : List OpQ) (hR : RdS R0 encOpQ 5 A xs) (hn : xs.length ≤ 9223372036854775807) (h : rightQ xs = false) : FSpec Try.prog 27 #[.slice A xs.length c] R0 (fun _ : Unit => True) (fun _ => .bool false) (fun _ => R0) := by
  have := right19_spec R0 A c xs hR hn
  rwa [h] at this
theorem right_short {xs : List OpQ} (h : rightQ xs = true) : (xs.length : Int) ≤ 100 := by
  rw [rightQ, Bool.and_eq_true, decide_eq_true_eq] at h
  exact h.2

end Go.Proofs.Ytpnpdliimidoaaa
