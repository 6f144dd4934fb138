/-
  No cell of these rows narrows 'for every input' (looked for: loops, veiled, ifaces, maps, wideKeys, modest, calm, conditions, laid).
  DERIVED. THE GIVEN ROWS OF THIS SEAT. 12 by the template 'for every input the law returns true; each argument reads behind the call as it read before'; 0 by the template 'total and deterministic' (their statements: YtpnpdliimidoaaaTotals.lean).
  GIVEN WITH THE SEED: the statements are not yours to turn. If you find one false, say at which input.
  Laid BY PROGRAM, IN A SANDBOX (cutbox-rows.mjs): the forced cells as the released guide's own fill.sh prints them over the translation e843f129430db680… (all of the seat's roots in one cut). By AI agents, Wed Nov 11 2026. No macro, syntax, notation, axiom, sorry.
-/
import Derived.Test.YtpnpdliimidoaaaChecked
import GoSem.Claim
import GoSem.ClaimJoined
import GoSem.ClaimMapViews
import Derived.JoinedTies
import Derived.KernelRfl
namespace Go.Proofs.Ytpnpdliimidoaaa
/- THE CELL 'sum', in the pinned program and in every row, IS THE sha256 OF THE DUMP (.gsa) THAT YtpnpdliimidoaaaProg.lean LOADS. Nothing in Lean hashes anything: it is a label: what it is worth is what the hold of that sum in a sandbox is worth. -/
noncomputable def Try.pinned : Pinned := { name := "ytpnpdliimidoaaa", sum := "e843f129430db6806471f38051b823e2134b4c329a71191b5e6f1536d3c6d429", checked := Try.checked }
namespace Rows
def none {H : Type} : Left H := { results := [], args := [] }

/-- 'pitotlaw14.MuxOrder': WHATEVER THE INPUT: true; the input reads as it did. -/
def muxOrderSpec : ChangeSpec := { name := "muxOrder", fn := fun _ => fun
  | [d] => { results := [.lit (.bool true)], args := [d] }
  | _ => none }
def muxOrderRow : OpenClaim := { program := "ytpnpdliimidoaaa", sum := "e843f129430db6806471f38051b823e2134b4c329a71191b5e6f1536d3c6d429", func := "pitot/pitotlaw14.MuxOrder", spec := "muxOrder", unfollowed := true, recurses := true, apart := false }
def MuxOrderSaid : Prop := muxOrderRow.holds Try.pinned (OpenSpec.ofChange muxOrderSpec)

/-- ITS FALSE NEIGHBOUR: 'it returns false'. Refute it at one input. -/
def muxOrderWrong : ChangeSpec := { name := "muxOrder", fn := fun _ => fun
  | [d] => { results := [.lit (.bool false)], args := [d] }
  | _ => none }
def MuxOrderWrongFalsely : Prop := muxOrderRow.holds Try.pinned (OpenSpec.ofChange muxOrderWrong)

/-- 'pitotlaw14.MuxRate': WHATEVER THE INPUT: true; the input reads as it did. -/
def muxRateSpec : ChangeSpec := { name := "muxRate", fn := fun _ => fun
  | [d1, d2, d3] => { results := [.lit (.bool true)], args := [d1, d2, d3] }
  | _ => none }
def muxRateRow : OpenClaim := { program := "ytpnpdliimidoaaa", sum := "e843f129430db6806471f38051b823e2134b4c329a71191b5e6f1536d3c6d429", func := "pitot/pitotlaw14.MuxRate", spec := "muxRate", unfollowed := true, recurses := true, apart := false }
def MuxRateSaid : Prop := muxRateRow.holds Try.pinned (OpenSpec.ofChange muxRateSpec)

/-- ITS FALSE NEIGHBOUR: 'it returns false'. Refute it at one input. -/
def muxRateWrong : ChangeSpec := { name := "muxRate", fn := fun _ => fun
  | [d1, d2, d3] => { results := [.lit (.bool false)], args := [d1, d2, d3] }
  | _ => none }
def MuxRateWrongFalsely : Prop := muxRateRow.holds Try.pinned (OpenSpec.ofChange muxRateWrong)

/-- 'pitotlaw14.MuxSame': WHATEVER THE INPUT: true; the input reads as it did. -/
def muxSameSpec : ChangeSpec := { name := "muxSame", fn := fun _ => fun
  | [d] => { results := [.lit (.bool true)], args := [d] }
  | _ => none }
def muxSameRow : OpenClaim := { program := "ytpnpdliimidoaaa", sum := "e843f129430db6806471f38051b823e2134b4c329a71191b5e6f1536d3c6d429", func := "pitot/pitotlaw14.MuxSame", spec := "muxSame", unfollowed := true, recurses := true, apart := false }
def MuxSameSaid : Prop := muxSameRow.holds Try.pinned (OpenSpec.ofChange muxSameSpec)

/-- ITS FALSE NEIGHBOUR: 'it returns false'. Refute it at one input. -/
def muxSameWrong : ChangeSpec := { name := "muxSame", fn := fun _ => fun
  | [d] => { results := [.lit (.bool false)], args := [d] }
  | _ => none }
def MuxSameWrongFalsely : Prop := muxSameRow.holds Try.pinned (OpenSpec.ofChange muxSameWrong)

/-- 'pitotlaw14.MuxOne': WHATEVER THE INPUT: true; the input reads as it did. -/
def muxOneSpec : ChangeSpec := { name := "muxOne", fn := fun _ => fun
  | [d1, d2, d3] => { results := [.lit (.bool true)], args := [d1, d2, d3] }
  | _ => none }
def muxOneRow : OpenClaim := { program := "ytpnpdliimidoaaa", sum := "e843f129430db6806471f38051b823e2134b4c329a71191b5e6f1536d3c6d429", func := "pitot/pitotlaw14.MuxOne", spec := "muxOne", unfollowed := true, recurses := true, apart := false }
def MuxOneSaid : Prop := muxOneRow.holds Try.pinned (OpenSpec.ofChange muxOneSpec)

/-- ITS FALSE NEIGHBOUR: 'it returns false'. Refute it at one input. -/
def muxOneWrong : ChangeSpec := { name := "muxOne", fn := fun _ => fun
  | [d1, d2, d3] => { results := [.lit (.bool false)], args := [d1, d2, d3] }
  | _ => none }
def MuxOneWrongFalsely : Prop := muxOneRow.holds Try.pinned (OpenSpec.ofChange muxOneWrong)

/-- 'pitotlaw14.MuxPlays': WHATEVER THE INPUT: true; the input reads as it did. -/
def muxPlaysSpec : ChangeSpec := { name := "muxPlays", fn := fun _ => fun
  | [d] => { results := [.lit (.bool true)], args := [d] }
  | _ => none }
def muxPlaysRow : OpenClaim := { program := "ytpnpdliimidoaaa", sum := "e843f129430db6806471f38051b823e2134b4c329a71191b5e6f1536d3c6d429", func := "pitot/pitotlaw14.MuxPlays", spec := "muxPlays", unfollowed := true, recurses := true, apart := false }
def MuxPlaysSaid : Prop := muxPlaysRow.holds Try.pinned (OpenSpec.ofChange muxPlaysSpec)

/-- ITS FALSE NEIGHBOUR: 'it returns false'. Refute it at one input. -/
def muxPlaysWrong : ChangeSpec := { name := "muxPlays", fn := fun _ => fun
  | [d] => { results := [.lit (.bool false)], args := [d] }
  | _ => none }
def MuxPlaysWrongFalsely : Prop := muxPlaysRow.holds Try.pinned (OpenSpec.ofChange muxPlaysWrong)

/-- 'pitotlaw14.MuxNil': WHATEVER THE INPUT: true; the input reads as it did. -/
def muxNilSpec : ChangeSpec := { name := "muxNil", fn := fun _ => fun
  | [d1, d2] => { results := [.lit (.bool true)], args := [d1, d2] }
  | _ => none }
def muxNilRow : OpenClaim := { program := "ytpnpdliimidoaaa", sum := "e843f129430db6806471f38051b823e2134b4c329a71191b5e6f1536d3c6d429", func := "pitot/pitotlaw14.MuxNil", spec := "muxNil", unfollowed := true, recurses := true, apart := false }
def MuxNilSaid : Prop := muxNilRow.holds Try.pinned (OpenSpec.ofChange muxNilSpec)

/-- ITS FALSE NEIGHBOUR: 'it returns false'. Refute it at one input. -/
def muxNilWrong : ChangeSpec := { name := "muxNil", fn := fun _ => fun
  | [d1, d2] => { results := [.lit (.bool false)], args := [d1, d2] }
  | _ => none }
def MuxNilWrongFalsely : Prop := muxNilRow.holds Try.pinned (OpenSpec.ofChange muxNilWrong)

/-- 'pitotlaw19.QueueOrder': WHATEVER THE INPUT: true; the input reads as it did. -/
def queueOrderSpec : ChangeSpec := { name := "queueOrder", fn := fun _ => fun
  | [d] => { results := [.lit (.bool true)], args := [d] }
  | _ => none }
def queueOrderRow : OpenClaim := { program := "ytpnpdliimidoaaa", sum := "e843f129430db6806471f38051b823e2134b4c329a71191b5e6f1536d3c6d429", func := "pitot/pitotlaw19.QueueOrder", spec := "queueOrder", apart := false }
def QueueOrderSaid : Prop := queueOrderRow.holds Try.pinned (OpenSpec.ofChange queueOrderSpec)

/-- ITS FALSE NEIGHBOUR: 'it returns false'. Refute it at one input. -/
def queueOrderWrong : ChangeSpec := { name := "queueOrder", fn := fun _ => fun
  | [d] => { results := [.lit (.bool false)], args := [d] }
  | _ => none }
def QueueOrderWrongFalsely : Prop := queueOrderRow.holds Try.pinned (OpenSpec.ofChange queueOrderWrong)

/-- 'pitotlaw19.QueueBusy': WHATEVER THE INPUT: true; the input reads as it did. -/
def queueBusySpec : ChangeSpec := { name := "queueBusy", fn := fun _ => fun
  | [d] => { results := [.lit (.bool true)], args := [d] }
  | _ => none }
def queueBusyRow : OpenClaim := { program := "ytpnpdliimidoaaa", sum := "e843f129430db6806471f38051b823e2134b4c329a71191b5e6f1536d3c6d429", func := "pitot/pitotlaw19.QueueBusy", spec := "queueBusy", apart := false }
def QueueBusySaid : Prop := queueBusyRow.holds Try.pinned (OpenSpec.ofChange queueBusySpec)

/-- ITS FALSE NEIGHBOUR: 'it returns false'. Refute it at one input. -/
def queueBusyWrong : ChangeSpec := { name := "queueBusy", fn := fun _ => fun
  | [d] => { results := [.lit (.bool false)], args := [d] }
  | _ => none }
def QueueBusyWrongFalsely : Prop := queueBusyRow.holds Try.pinned (OpenSpec.ofChange queueBusyWrong)

/-- 'pitotlaw19.QueueHigh': WHATEVER THE INPUT: true; the input reads as it did. -/
def queueHighSpec : ChangeSpec := { name := "queueHigh", fn := fun _ => fun
  | [d] => { results := [.lit (.bool true)], args := [d] }
  | _ => none }
def queueHighRow : OpenClaim := { program := "ytpnpdliimidoaaa", sum := "e843f129430db6806471f38051b823e2134b4c329a71191b5e6f1536d3c6d429", func := "pitot/pitotlaw19.QueueHigh", spec := "queueHigh", apart := false }
def QueueHighSaid : Prop := queueHighRow.holds Try.pinned (OpenSpec.ofChange queueHighSpec)

/-- ITS FALSE NEIGHBOUR: 'it returns false'. Refute it at one input. -/
def queueHighWrong : ChangeSpec := { name := "queueHigh", fn := fun _ => fun
  | [d] => { results := [.lit (.bool false)], args := [d] }
  | _ => none }
def QueueHighWrongFalsely : Prop := queueHighRow.holds Try.pinned (OpenSpec.ofChange queueHighWrong)

/-- 'pitotlaw19.QueuePlays': WHATEVER THE INPUT: true; the input reads as it did. -/
def queuePlaysSpec : ChangeSpec := { name := "queuePlays", fn := fun _ => fun
  | [d1, d2, d3] => { results := [.lit (.bool true)], args := [d1, d2, d3] }
  | _ => none }
def queuePlaysRow : OpenClaim := { program := "ytpnpdliimidoaaa", sum := "e843f129430db6806471f38051b823e2134b4c329a71191b5e6f1536d3c6d429", func := "pitot/pitotlaw19.QueuePlays", spec := "queuePlays", apart := false }
def QueuePlaysSaid : Prop := queuePlaysRow.holds Try.pinned (OpenSpec.ofChange queuePlaysSpec)

/-- ITS FALSE NEIGHBOUR: 'it returns false'. Refute it at one input. -/
def queuePlaysWrong : ChangeSpec := { name := "queuePlays", fn := fun _ => fun
  | [d1, d2, d3] => { results := [.lit (.bool false)], args := [d1, d2, d3] }
  | _ => none }
def QueuePlaysWrongFalsely : Prop := queuePlaysRow.holds Try.pinned (OpenSpec.ofChange queuePlaysWrong)

/-- 'pitotlaw19.QueueNil': WHATEVER THE INPUT: true; the input reads as it did. -/
def queueNilSpec : ChangeSpec := { name := "queueNil", fn := fun _ => fun
  | [d1, d2] => { results := [.lit (.bool true)], args := [d1, d2] }
  | _ => none }
def queueNilRow : OpenClaim := { program := "ytpnpdliimidoaaa", sum := "e843f129430db6806471f38051b823e2134b4c329a71191b5e6f1536d3c6d429", func := "pitot/pitotlaw19.QueueNil", spec := "queueNil", apart := false }
def QueueNilSaid : Prop := queueNilRow.holds Try.pinned (OpenSpec.ofChange queueNilSpec)

/-- ITS FALSE NEIGHBOUR: 'it returns false'. Refute it at one input. -/
def queueNilWrong : ChangeSpec := { name := "queueNil", fn := fun _ => fun
  | [d1, d2] => { results := [.lit (.bool false)], args := [d1, d2] }
  | _ => none }
def QueueNilWrongFalsely : Prop := queueNilRow.holds Try.pinned (OpenSpec.ofChange queueNilWrong)

/-- 'pitotlaw19.QueueLine': WHATEVER THE INPUT: true; the input reads as it did. -/
def queueLineSpec : ChangeSpec := { name := "queueLine", fn := fun _ => fun
  | [d1, d2] => { results := [.lit (.bool true)], args := [d1, d2] }
  | _ => none }
def queueLineRow : OpenClaim := { program := "ytpnpdliimidoaaa", sum := "e843f129430db6806471f38051b823e2134b4c329a71191b5e6f1536d3c6d429", func := "pitot/pitotlaw19.QueueLine", spec := "queueLine", unfollowed := true, recurses := true, apart := false }
def QueueLineSaid : Prop := queueLineRow.holds Try.pinned (OpenSpec.ofChange queueLineSpec)

/-- ITS FALSE NEIGHBOUR: 'it returns false'. Refute it at one input. -/
def queueLineWrong : ChangeSpec := { name := "queueLine", fn := fun _ => fun
  | [d1, d2] => { results := [.lit (.bool false)], args := [d1, d2] }
  | _ => none }
def QueueLineWrongFalsely : Prop := queueLineRow.holds Try.pinned (OpenSpec.ofChange queueLineWrong)

/- THE SECOND FORM. 'bulk': how many values and letters a reading holds, each counted each time it is reached (what is shared counts as often as it is met; a slice's spare places count too). A statement '..UptoSaid' is the law's where the arguments, and the package variables that the reading takes, are together of bulk at most 1048576: NARROWER than '..Said'. Prove '..Said' where nothing that the law and all that it calls make is longer than what came in: it says more and counts as full. Else prove '..UptoSaid'. A law counts once. -/
mutual
def uptoBulk {H : Type} : DataW H → Nat
  | .lit (.string bytes) => bytes.length + 1
  | .lit _ => 1
  | .nil => 1
  | .ptr d => uptoBulk d + 1
  | .slice elems spare => uptoBulkAll elems + uptoBulkAll spare + 1
  | .agg parts => uptoBulkAll parts + 1
  | .iface _ d => uptoBulk d + 1
  | .map entries => uptoBulkEntries entries + 1
  | .held _ => 1
def uptoBulkAll {H : Type} : List (DataW H) → Nat
  | [] => 0
  | d :: r => uptoBulk d + uptoBulkAll r
def uptoBulkEntries {H : Type} : List (Lit × DataW H) → Nat
  | [] => 0
  | x :: r => uptoBulkEntry x + uptoBulkEntries r
def uptoBulkEntry {H : Type} : Lit × DataW H → Nat
  | (.string bytes, d) => bytes.length + uptoBulk d + 1
  | (_, d) => uptoBulk d + 1
 end
def uptoSmall : (H : Type) → List (DataW H) → Bool := fun _ ds => decide (uptoBulkAll ds ≤ 1048576)
def OpenSpec.upto (s : _root_.Go.ChangeSpec) : _root_.Go.OpenSpec := { _root_.Go.OpenSpec.ofChange s with cond := some uptoSmall }

/-- 'pitotlaw14.MuxOrder', WHERE WHAT IT READS IS OF BULK AT MOST 1048576: true; the input reads as it did. -/
def muxOrderUptoRow : OpenClaim := { program := "ytpnpdliimidoaaa", sum := "e843f129430db6806471f38051b823e2134b4c329a71191b5e6f1536d3c6d429", func := "pitot/pitotlaw14.MuxOrder", spec := "muxOrder", unfollowed := true, recurses := true, apart := false, narrowed := true }
def MuxOrderUptoSaid : Prop := muxOrderUptoRow.holds Try.pinned (OpenSpec.upto muxOrderSpec)

/-- 'pitotlaw14.MuxRate', WHERE WHAT IT READS IS OF BULK AT MOST 1048576: true; the input reads as it did. -/
def muxRateUptoRow : OpenClaim := { program := "ytpnpdliimidoaaa", sum := "e843f129430db6806471f38051b823e2134b4c329a71191b5e6f1536d3c6d429", func := "pitot/pitotlaw14.MuxRate", spec := "muxRate", unfollowed := true, recurses := true, apart := false, narrowed := true }
def MuxRateUptoSaid : Prop := muxRateUptoRow.holds Try.pinned (OpenSpec.upto muxRateSpec)

/-- 'pitotlaw14.MuxSame', WHERE WHAT IT READS IS OF BULK AT MOST 1048576: true; the input reads as it did. -/
def muxSameUptoRow : OpenClaim := { program := "ytpnpdliimidoaaa", sum := "e843f129430db6806471f38051b823e2134b4c329a71191b5e6f1536d3c6d429", func := "pitot/pitotlaw14.MuxSame", spec := "muxSame", unfollowed := true, recurses := true, apart := false, narrowed := true }
def MuxSameUptoSaid : Prop := muxSameUptoRow.holds Try.pinned (OpenSpec.upto muxSameSpec)

/-- 'pitotlaw14.MuxOne', WHERE WHAT IT READS IS OF BULK AT MOST 1048576: true; the input reads as it did. -/
def muxOneUptoRow : OpenClaim := { program := "ytpnpdliimidoaaa", sum := "e843f129430db6806471f38051b823e2134b4c329a71191b5e6f1536d3c6d429", func := "pitot/pitotlaw14.MuxOne", spec := "muxOne", unfollowed := true, recurses := true, apart := false, narrowed := true }
def MuxOneUptoSaid : Prop := muxOneUptoRow.holds Try.pinned (OpenSpec.upto muxOneSpec)

/-- 'pitotlaw14.MuxPlays', WHERE WHAT IT READS IS OF BULK AT MOST 1048576: true; the input reads as it did. -/
def muxPlaysUptoRow : OpenClaim := { program := "ytpnpdliimidoaaa", sum := "e843f129430db6806471f38051b823e2134b4c329a71191b5e6f1536d3c6d429", func := "pitot/pitotlaw14.MuxPlays", spec := "muxPlays", unfollowed := true, recurses := true, apart := false, narrowed := true }
def MuxPlaysUptoSaid : Prop := muxPlaysUptoRow.holds Try.pinned (OpenSpec.upto muxPlaysSpec)

/-- 'pitotlaw14.MuxNil', WHERE WHAT IT READS IS OF BULK AT MOST 1048576: true; the input reads as it did. -/
def muxNilUptoRow : OpenClaim := { program := "ytpnpdliimidoaaa", sum := "e843f129430db6806471f38051b823e2134b4c329a71191b5e6f1536d3c6d429", func := "pitot/pitotlaw14.MuxNil", spec := "muxNil", unfollowed := true, recurses := true, apart := false, narrowed := true }
def MuxNilUptoSaid : Prop := muxNilUptoRow.holds Try.pinned (OpenSpec.upto muxNilSpec)

/-- 'pitotlaw19.QueueOrder', WHERE WHAT IT READS IS OF BULK AT MOST 1048576: true; the input reads as it did. -/
def queueOrderUptoRow : OpenClaim := { program := "ytpnpdliimidoaaa", sum := "e843f129430db6806471f38051b823e2134b4c329a71191b5e6f1536d3c6d429", func := "pitot/pitotlaw19.QueueOrder", spec := "queueOrder", apart := false, narrowed := true }
def QueueOrderUptoSaid : Prop := queueOrderUptoRow.holds Try.pinned (OpenSpec.upto queueOrderSpec)

/-- 'pitotlaw19.QueueBusy', WHERE WHAT IT READS IS OF BULK AT MOST 1048576: true; the input reads as it did. -/
def queueBusyUptoRow : OpenClaim := { program := "ytpnpdliimidoaaa", sum := "e843f129430db6806471f38051b823e2134b4c329a71191b5e6f1536d3c6d429", func := "pitot/pitotlaw19.QueueBusy", spec := "queueBusy", apart := false, narrowed := true }
def QueueBusyUptoSaid : Prop := queueBusyUptoRow.holds Try.pinned (OpenSpec.upto queueBusySpec)

/-- 'pitotlaw19.QueueHigh', WHERE WHAT IT READS IS OF BULK AT MOST 1048576: true; the input reads as it did. -/
def queueHighUptoRow : OpenClaim := { program := "ytpnpdliimidoaaa", sum := "e843f129430db6806471f38051b823e2134b4c329a71191b5e6f1536d3c6d429", func := "pitot/pitotlaw19.QueueHigh", spec := "queueHigh", apart := false, narrowed := true }
def QueueHighUptoSaid : Prop := queueHighUptoRow.holds Try.pinned (OpenSpec.upto queueHighSpec)

/-- 'pitotlaw19.QueuePlays', WHERE WHAT IT READS IS OF BULK AT MOST 1048576: true; the input reads as it did. -/
def queuePlaysUptoRow : OpenClaim := { program := "ytpnpdliimidoaaa", sum := "e843f129430db6806471f38051b823e2134b4c329a71191b5e6f1536d3c6d429", func := "pitot/pitotlaw19.QueuePlays", spec := "queuePlays", apart := false, narrowed := true }
def QueuePlaysUptoSaid : Prop := queuePlaysUptoRow.holds Try.pinned (OpenSpec.upto queuePlaysSpec)

/-- 'pitotlaw19.QueueNil', WHERE WHAT IT READS IS OF BULK AT MOST 1048576: true; the input reads as it did. -/
def queueNilUptoRow : OpenClaim := { program := "ytpnpdliimidoaaa", sum := "e843f129430db6806471f38051b823e2134b4c329a71191b5e6f1536d3c6d429", func := "pitot/pitotlaw19.QueueNil", spec := "queueNil", apart := false, narrowed := true }
def QueueNilUptoSaid : Prop := queueNilUptoRow.holds Try.pinned (OpenSpec.upto queueNilSpec)

/-- 'pitotlaw19.QueueLine', WHERE WHAT IT READS IS OF BULK AT MOST 1048576: true; the input reads as it did. -/
def queueLineUptoRow : OpenClaim := { program := "ytpnpdliimidoaaa", sum := "e843f129430db6806471f38051b823e2134b4c329a71191b5e6f1536d3c6d429", func := "pitot/pitotlaw19.QueueLine", spec := "queueLine", unfollowed := true, recurses := true, apart := false, narrowed := true }
def QueueLineUptoSaid : Prop := queueLineUptoRow.holds Try.pinned (OpenSpec.upto queueLineSpec)

end Rows
end Go.Proofs.Ytpnpdliimidoaaa
