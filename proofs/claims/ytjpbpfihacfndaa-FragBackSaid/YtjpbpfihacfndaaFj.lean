/- Facts of packets that the contracts of ipv4.Encode name. -/
import Derived.Test.YtjpbpfihacfndaaFi
import Derived.Test.YtjpbpfihacfndaaBh
import Derived.Test.YtjpbpfihacfndaaH
namespace Go.Proofs.Ytjpbpfihacfndaa
open Go.SLA
set_option maxRecDepth 100000
set_option linter.unusedVariables false
set_option linter.unusedSimpArgs false
attribute [local irreducible] J L K QL Rg FSpec OpV OpX Rd Back

theorem wf64 {n : Int} (h : (Lit.int .i64 n).wf = true) : -9223372036854775808 ≤ n ∧ n ≤ 9223372036854775807 := by simpa [Lit.wf, IntKind.min, IntKind.max, IntKind.signed, IntKind.bits] using h
def Pk.src (p : Pk) : List Int := [p.s0, p.s1, p.s2, p.s3]
def Pk.dst (p : Pk) : List Int := [p.d0, p.d1, p.d2, p.d3]
theorem okPk.src {p : Pk} (h : okPk p) : ∀ v ∈ p.src, 0 ≤ v ∧ v < 256 := by
  obtain ⟨_, _, _, _, h0, h1, h2, h3, _⟩ := h
  intro v hv
  simp only [Pk.src, List.mem_cons, List.not_mem_nil, or_false] at hv
  rcases hv with rfl | rfl | rfl | rfl <;> exact wf8 (by assumption)
theorem okPk.dst {p : Pk} (h : okPk p) : ∀ v ∈ p.dst, 0 ≤ v ∧ v < 256 := by
  obtain ⟨_, _, _, _, _, _, _, _, h0, h1, h2, h3, _⟩ := h
  intro v hv
  simp only [Pk.dst, List.mem_cons, List.not_mem_nil, or_false] at hv
  rcases hv with rfl | rfl | rfl | rfl <;> exact wf8 (by assumption)
theorem okPk.data {p : Pk} (h : okPk p) : p.data.size ≤ maxLen := h.2.2.2.2.2.2.2.2.2.2.2.2
theorem U8_n (p : Nat) (s : ByteArray) (k : Nat) (hk : k ≤ 255) (hs : s.size ≤ 1099511627776) : FSpec Try.prog 59 #[.pointer (some (ad p 0)), .int .i64 k] (WrP p s false) (fun _ : Unit => True) (fun _ => .tuple #[]) (fun _ => WrP p (s ++ be k 1) false) := by
  have := U8_spec p s false k (by omega) hs
  rwa [putS_fit rfl (by show k / 256 = 0; omega) (by decide)] at this

end Go.Proofs.Ytjpbpfihacfndaa
