/-
  No cell of these rows narrows 'for every input' (looked for: loops, veiled, ifaces, maps, wideKeys, modest, calm, conditions, laid).
  DERIVED. THE GIVEN ROWS OF THIS SEAT. 12 by the template 'for every input the law returns true; each argument reads behind the call as it read before'; 0 by the template 'total and deterministic' (their statements: YtdmlcnecildliaaTotals.lean).
  GIVEN WITH THE SEED: the statements are not yours to turn. If you find one false, say at which input.
  Laid BY PROGRAM, IN A SANDBOX (cutbox-rows.mjs): the forced cells as the released guide's own fill.sh prints them over the translation 70e86cb96bef3f13… (all of the seat's roots in one cut). By AI agents, Wed Nov 11 2026. No macro, syntax, notation, axiom, sorry.
-/
import Derived.Test.YtdmlcnecildliaaChecked
import GoSem.Claim
import GoSem.ClaimJoined
import GoSem.ClaimMapViews
import Derived.JoinedTies
import Derived.KernelRfl
namespace Go.Proofs.Ytdmlcnecildliaa
/- THE CELL 'sum', in the pinned program and in every row, IS THE sha256 OF THE DUMP (.gsa) THAT YtdmlcnecildliaaProg.lean LOADS. Nothing in Lean hashes anything: it is a label: what it is worth is what the hold of that sum in a sandbox is worth. -/
noncomputable def Try.pinned : Pinned := { name := "ytdmlcnecildliaa", sum := "70e86cb96bef3f135990d56f9230f125940618dcd8310bc1d698181d33d0fcab", checked := Try.checked }
namespace Rows
def none {H : Type} : Left H := { results := [], args := [] }

/-- 'pitotlaw01.BitsSums': WHATEVER THE INPUT: true; the input reads as it did. -/
def bitsSumsSpec : ChangeSpec := { name := "bitsSums", fn := fun _ => fun
  | [d] => { results := [.lit (.bool true)], args := [d] }
  | _ => none }
def bitsSumsRow : OpenClaim := { program := "ytdmlcnecildliaa", sum := "70e86cb96bef3f135990d56f9230f125940618dcd8310bc1d698181d33d0fcab", func := "pitot/pitotlaw01.BitsSums", spec := "bitsSums", apart := false }
def BitsSumsSaid : Prop := bitsSumsRow.holds Try.pinned (OpenSpec.ofChange bitsSumsSpec)

/-- ITS FALSE NEIGHBOUR: 'it returns false'. Refute it at one input. -/
def bitsSumsWrong : ChangeSpec := { name := "bitsSums", fn := fun _ => fun
  | [d] => { results := [.lit (.bool false)], args := [d] }
  | _ => none }
def BitsSumsWrongFalsely : Prop := bitsSumsRow.holds Try.pinned (OpenSpec.ofChange bitsSumsWrong)

/-- 'pitotlaw01.BitsSealed': WHATEVER THE INPUT: true; the input reads as it did. -/
def bitsSealedSpec : ChangeSpec := { name := "bitsSealed", fn := fun _ => fun
  | [d] => { results := [.lit (.bool true)], args := [d] }
  | _ => none }
def bitsSealedRow : OpenClaim := { program := "ytdmlcnecildliaa", sum := "70e86cb96bef3f135990d56f9230f125940618dcd8310bc1d698181d33d0fcab", func := "pitot/pitotlaw01.BitsSealed", spec := "bitsSealed", apart := false }
def BitsSealedSaid : Prop := bitsSealedRow.holds Try.pinned (OpenSpec.ofChange bitsSealedSpec)

/-- ITS FALSE NEIGHBOUR: 'it returns false'. Refute it at one input. -/
def bitsSealedWrong : ChangeSpec := { name := "bitsSealed", fn := fun _ => fun
  | [d] => { results := [.lit (.bool false)], args := [d] }
  | _ => none }
def BitsSealedWrongFalsely : Prop := bitsSealedRow.holds Try.pinned (OpenSpec.ofChange bitsSealedWrong)

/-- 'pitotlaw06.UdpEncodes': WHATEVER THE INPUT: true; the input reads as it did. -/
def udpEncodesSpec : ChangeSpec := { name := "udpEncodes", fn := fun _ => fun
  | [d1, d2] => { results := [.lit (.bool true)], args := [d1, d2] }
  | _ => none }
def udpEncodesRow : OpenClaim := { program := "ytdmlcnecildliaa", sum := "70e86cb96bef3f135990d56f9230f125940618dcd8310bc1d698181d33d0fcab", func := "pitot/pitotlaw06.UdpEncodes", spec := "udpEncodes", apart := false }
def UdpEncodesSaid : Prop := udpEncodesRow.holds Try.pinned (OpenSpec.ofChange udpEncodesSpec)

/-- ITS FALSE NEIGHBOUR: 'it returns false'. Refute it at one input. -/
def udpEncodesWrong : ChangeSpec := { name := "udpEncodes", fn := fun _ => fun
  | [d1, d2] => { results := [.lit (.bool false)], args := [d1, d2] }
  | _ => none }
def UdpEncodesWrongFalsely : Prop := udpEncodesRow.holds Try.pinned (OpenSpec.ofChange udpEncodesWrong)

/-- 'pitotlaw01.BitsWrites': WHATEVER THE INPUT: true; the input reads as it did. -/
def bitsWritesSpec : ChangeSpec := { name := "bitsWrites", fn := fun _ => fun
  | [d] => { results := [.lit (.bool true)], args := [d] }
  | _ => none }
def bitsWritesRow : OpenClaim := { program := "ytdmlcnecildliaa", sum := "70e86cb96bef3f135990d56f9230f125940618dcd8310bc1d698181d33d0fcab", func := "pitot/pitotlaw01.BitsWrites", spec := "bitsWrites", apart := false }
def BitsWritesSaid : Prop := bitsWritesRow.holds Try.pinned (OpenSpec.ofChange bitsWritesSpec)

/-- ITS FALSE NEIGHBOUR: 'it returns false'. Refute it at one input. -/
def bitsWritesWrong : ChangeSpec := { name := "bitsWrites", fn := fun _ => fun
  | [d] => { results := [.lit (.bool false)], args := [d] }
  | _ => none }
def BitsWritesWrongFalsely : Prop := bitsWritesRow.holds Try.pinned (OpenSpec.ofChange bitsWritesWrong)

/-- 'pitotlaw01.BitsParts': WHATEVER THE INPUT: true; the input reads as it did. -/
def bitsPartsSpec : ChangeSpec := { name := "bitsParts", fn := fun _ => fun
  | [d1, d2] => { results := [.lit (.bool true)], args := [d1, d2] }
  | _ => none }
def bitsPartsRow : OpenClaim := { program := "ytdmlcnecildliaa", sum := "70e86cb96bef3f135990d56f9230f125940618dcd8310bc1d698181d33d0fcab", func := "pitot/pitotlaw01.BitsParts", spec := "bitsParts", apart := false }
def BitsPartsSaid : Prop := bitsPartsRow.holds Try.pinned (OpenSpec.ofChange bitsPartsSpec)

/-- ITS FALSE NEIGHBOUR: 'it returns false'. Refute it at one input. -/
def bitsPartsWrong : ChangeSpec := { name := "bitsParts", fn := fun _ => fun
  | [d1, d2] => { results := [.lit (.bool false)], args := [d1, d2] }
  | _ => none }
def BitsPartsWrongFalsely : Prop := bitsPartsRow.holds Try.pinned (OpenSpec.ofChange bitsPartsWrong)

/-- 'pitotlaw06.UdpDecodes': WHATEVER THE INPUT: true; the input reads as it did. -/
def udpDecodesSpec : ChangeSpec := { name := "udpDecodes", fn := fun _ => fun
  | [d1, d2, d3] => { results := [.lit (.bool true)], args := [d1, d2, d3] }
  | _ => none }
def udpDecodesRow : OpenClaim := { program := "ytdmlcnecildliaa", sum := "70e86cb96bef3f135990d56f9230f125940618dcd8310bc1d698181d33d0fcab", func := "pitot/pitotlaw06.UdpDecodes", spec := "udpDecodes", apart := false }
def UdpDecodesSaid : Prop := udpDecodesRow.holds Try.pinned (OpenSpec.ofChange udpDecodesSpec)

/-- ITS FALSE NEIGHBOUR: 'it returns false'. Refute it at one input. -/
def udpDecodesWrong : ChangeSpec := { name := "udpDecodes", fn := fun _ => fun
  | [d1, d2, d3] => { results := [.lit (.bool false)], args := [d1, d2, d3] }
  | _ => none }
def UdpDecodesWrongFalsely : Prop := udpDecodesRow.holds Try.pinned (OpenSpec.ofChange udpDecodesWrong)

/-- 'pitotlaw06.UdpBack': WHATEVER THE INPUT: true; the input reads as it did. -/
def udpBackSpec : ChangeSpec := { name := "udpBack", fn := fun _ => fun
  | [d1, d2] => { results := [.lit (.bool true)], args := [d1, d2] }
  | _ => none }
def udpBackRow : OpenClaim := { program := "ytdmlcnecildliaa", sum := "70e86cb96bef3f135990d56f9230f125940618dcd8310bc1d698181d33d0fcab", func := "pitot/pitotlaw06.UdpBack", spec := "udpBack", apart := false }
def UdpBackSaid : Prop := udpBackRow.holds Try.pinned (OpenSpec.ofChange udpBackSpec)

/-- ITS FALSE NEIGHBOUR: 'it returns false'. Refute it at one input. -/
def udpBackWrong : ChangeSpec := { name := "udpBack", fn := fun _ => fun
  | [d1, d2] => { results := [.lit (.bool false)], args := [d1, d2] }
  | _ => none }
def UdpBackWrongFalsely : Prop := udpBackRow.holds Try.pinned (OpenSpec.ofChange udpBackWrong)

/-- 'pitotlaw06.UdpTold': WHATEVER THE INPUT: true; the input reads as it did. -/
def udpToldSpec : ChangeSpec := { name := "udpTold", fn := fun _ => fun
  | [d1, d2, d3] => { results := [.lit (.bool true)], args := [d1, d2, d3] }
  | _ => none }
def udpToldRow : OpenClaim := { program := "ytdmlcnecildliaa", sum := "70e86cb96bef3f135990d56f9230f125940618dcd8310bc1d698181d33d0fcab", func := "pitot/pitotlaw06.UdpTold", spec := "udpTold", apart := false }
def UdpToldSaid : Prop := udpToldRow.holds Try.pinned (OpenSpec.ofChange udpToldSpec)

/-- ITS FALSE NEIGHBOUR: 'it returns false'. Refute it at one input. -/
def udpToldWrong : ChangeSpec := { name := "udpTold", fn := fun _ => fun
  | [d1, d2, d3] => { results := [.lit (.bool false)], args := [d1, d2, d3] }
  | _ => none }
def UdpToldWrongFalsely : Prop := udpToldRow.holds Try.pinned (OpenSpec.ofChange udpToldWrong)

/-- 'pitotlaw06.UdpCut': WHATEVER THE INPUT: true; the input reads as it did. -/
def udpCutSpec : ChangeSpec := { name := "udpCut", fn := fun _ => fun
  | [d1, d2, d3] => { results := [.lit (.bool true)], args := [d1, d2, d3] }
  | _ => none }
def udpCutRow : OpenClaim := { program := "ytdmlcnecildliaa", sum := "70e86cb96bef3f135990d56f9230f125940618dcd8310bc1d698181d33d0fcab", func := "pitot/pitotlaw06.UdpCut", spec := "udpCut", apart := false }
def UdpCutSaid : Prop := udpCutRow.holds Try.pinned (OpenSpec.ofChange udpCutSpec)

/-- ITS FALSE NEIGHBOUR: 'it returns false'. Refute it at one input. -/
def udpCutWrong : ChangeSpec := { name := "udpCut", fn := fun _ => fun
  | [d1, d2, d3] => { results := [.lit (.bool false)], args := [d1, d2, d3] }
  | _ => none }
def UdpCutWrongFalsely : Prop := udpCutRow.holds Try.pinned (OpenSpec.ofChange udpCutWrong)

/-- 'pitotlaw06.UdpNone': WHATEVER THE INPUT: true; the input reads as it did. -/
def udpNoneSpec : ChangeSpec := { name := "udpNone", fn := fun _ => fun
  | [d1, d2, d3] => { results := [.lit (.bool true)], args := [d1, d2, d3] }
  | _ => none }
def udpNoneRow : OpenClaim := { program := "ytdmlcnecildliaa", sum := "70e86cb96bef3f135990d56f9230f125940618dcd8310bc1d698181d33d0fcab", func := "pitot/pitotlaw06.UdpNone", spec := "udpNone", apart := false }
def UdpNoneSaid : Prop := udpNoneRow.holds Try.pinned (OpenSpec.ofChange udpNoneSpec)

/-- ITS FALSE NEIGHBOUR: 'it returns false'. Refute it at one input. -/
def udpNoneWrong : ChangeSpec := { name := "udpNone", fn := fun _ => fun
  | [d1, d2, d3] => { results := [.lit (.bool false)], args := [d1, d2, d3] }
  | _ => none }
def UdpNoneWrongFalsely : Prop := udpNoneRow.holds Try.pinned (OpenSpec.ofChange udpNoneWrong)

/-- 'pitotlaw01.BitsBack': WHATEVER THE INPUT: true; the input reads as it did. -/
def bitsBackSpec : ChangeSpec := { name := "bitsBack", fn := fun _ => fun
  | [d] => { results := [.lit (.bool true)], args := [d] }
  | _ => none }
def bitsBackRow : OpenClaim := { program := "ytdmlcnecildliaa", sum := "70e86cb96bef3f135990d56f9230f125940618dcd8310bc1d698181d33d0fcab", func := "pitot/pitotlaw01.BitsBack", spec := "bitsBack", apart := false }
def BitsBackSaid : Prop := bitsBackRow.holds Try.pinned (OpenSpec.ofChange bitsBackSpec)

/-- ITS FALSE NEIGHBOUR: 'it returns false'. Refute it at one input. -/
def bitsBackWrong : ChangeSpec := { name := "bitsBack", fn := fun _ => fun
  | [d] => { results := [.lit (.bool false)], args := [d] }
  | _ => none }
def BitsBackWrongFalsely : Prop := bitsBackRow.holds Try.pinned (OpenSpec.ofChange bitsBackWrong)

/-- 'pitotlaw01.BitsNil': WHATEVER THE INPUT: true; the input reads as it did. -/
def bitsNilSpec : ChangeSpec := { name := "bitsNil", fn := fun _ => fun
  | [d1, d2] => { results := [.lit (.bool true)], args := [d1, d2] }
  | _ => none }
def bitsNilRow : OpenClaim := { program := "ytdmlcnecildliaa", sum := "70e86cb96bef3f135990d56f9230f125940618dcd8310bc1d698181d33d0fcab", func := "pitot/pitotlaw01.BitsNil", spec := "bitsNil", apart := false }
def BitsNilSaid : Prop := bitsNilRow.holds Try.pinned (OpenSpec.ofChange bitsNilSpec)

/-- ITS FALSE NEIGHBOUR: 'it returns false'. Refute it at one input. -/
def bitsNilWrong : ChangeSpec := { name := "bitsNil", fn := fun _ => fun
  | [d1, d2] => { results := [.lit (.bool false)], args := [d1, d2] }
  | _ => none }
def BitsNilWrongFalsely : Prop := bitsNilRow.holds Try.pinned (OpenSpec.ofChange bitsNilWrong)

/- THE SECOND FORM. 'bulk': how many values and letters a reading holds, each counted each time it is reached (what is shared counts as often as it is met; a slice's spare places count too). A statement '..UptoSaid' is the law's where the arguments, and the package variables that the reading takes, are together of bulk at most 1048576: NARROWER than '..Said'. Prove '..Said' where nothing that the law and all that it calls make is longer than what came in: it says more and counts as full. Else prove '..UptoSaid'. A law counts once. -/
mutual
def uptoBulk {H : Type} : DataW H → Nat
  | .lit (.string bytes) => bytes.length + 1
  | .lit _ => 1
  | .nil => 1
  | .ptr d => uptoBulk d + 1
  | .slice elems spare => uptoBulkAll elems + uptoBulkAll spare + 1
  | .agg parts => uptoBulkAll parts + 1
  | .iface _ d => uptoBulk d + 1
  | .map entries => uptoBulkEntries entries + 1
  | .held _ => 1
def uptoBulkAll {H : Type} : List (DataW H) → Nat
  | [] => 0
  | d :: r => uptoBulk d + uptoBulkAll r
def uptoBulkEntries {H : Type} : List (Lit × DataW H) → Nat
  | [] => 0
  | x :: r => uptoBulkEntry x + uptoBulkEntries r
def uptoBulkEntry {H : Type} : Lit × DataW H → Nat
  | (.string bytes, d) => bytes.length + uptoBulk d + 1
  | (_, d) => uptoBulk d + 1
 end
def uptoSmall : (H : Type) → List (DataW H) → Bool := fun _ ds => decide (uptoBulkAll ds ≤ 1048576)
def OpenSpec.upto (s : _root_.Go.ChangeSpec) : _root_.Go.OpenSpec := { _root_.Go.OpenSpec.ofChange s with cond := some uptoSmall }

/-- 'pitotlaw01.BitsSums', WHERE WHAT IT READS IS OF BULK AT MOST 1048576: true; the input reads as it did. -/
def bitsSumsUptoRow : OpenClaim := { program := "ytdmlcnecildliaa", sum := "70e86cb96bef3f135990d56f9230f125940618dcd8310bc1d698181d33d0fcab", func := "pitot/pitotlaw01.BitsSums", spec := "bitsSums", apart := false, narrowed := true }
def BitsSumsUptoSaid : Prop := bitsSumsUptoRow.holds Try.pinned (OpenSpec.upto bitsSumsSpec)

/-- 'pitotlaw01.BitsSealed', WHERE WHAT IT READS IS OF BULK AT MOST 1048576: true; the input reads as it did. -/
def bitsSealedUptoRow : OpenClaim := { program := "ytdmlcnecildliaa", sum := "70e86cb96bef3f135990d56f9230f125940618dcd8310bc1d698181d33d0fcab", func := "pitot/pitotlaw01.BitsSealed", spec := "bitsSealed", apart := false, narrowed := true }
def BitsSealedUptoSaid : Prop := bitsSealedUptoRow.holds Try.pinned (OpenSpec.upto bitsSealedSpec)

/-- 'pitotlaw06.UdpEncodes', WHERE WHAT IT READS IS OF BULK AT MOST 1048576: true; the input reads as it did. -/
def udpEncodesUptoRow : OpenClaim := { program := "ytdmlcnecildliaa", sum := "70e86cb96bef3f135990d56f9230f125940618dcd8310bc1d698181d33d0fcab", func := "pitot/pitotlaw06.UdpEncodes", spec := "udpEncodes", apart := false, narrowed := true }
def UdpEncodesUptoSaid : Prop := udpEncodesUptoRow.holds Try.pinned (OpenSpec.upto udpEncodesSpec)

/-- 'pitotlaw01.BitsWrites', WHERE WHAT IT READS IS OF BULK AT MOST 1048576: true; the input reads as it did. -/
def bitsWritesUptoRow : OpenClaim := { program := "ytdmlcnecildliaa", sum := "70e86cb96bef3f135990d56f9230f125940618dcd8310bc1d698181d33d0fcab", func := "pitot/pitotlaw01.BitsWrites", spec := "bitsWrites", apart := false, narrowed := true }
def BitsWritesUptoSaid : Prop := bitsWritesUptoRow.holds Try.pinned (OpenSpec.upto bitsWritesSpec)

/-- 'pitotlaw01.BitsParts', WHERE WHAT IT READS IS OF BULK AT MOST 1048576: true; the input reads as it did. -/
def bitsPartsUptoRow : OpenClaim := { program := "ytdmlcnecildliaa", sum := "70e86cb96bef3f135990d56f9230f125940618dcd8310bc1d698181d33d0fcab", func := "pitot/pitotlaw01.BitsParts", spec := "bitsParts", apart := false, narrowed := true }
def BitsPartsUptoSaid : Prop := bitsPartsUptoRow.holds Try.pinned (OpenSpec.upto bitsPartsSpec)

/-- 'pitotlaw06.UdpDecodes', WHERE WHAT IT READS IS OF BULK AT MOST 1048576: true; the input reads as it did. -/
def udpDecodesUptoRow : OpenClaim := { program := "ytdmlcnecildliaa", sum := "70e86cb96bef3f135990d56f9230f125940618dcd8310bc1d698181d33d0fcab", func := "pitot/pitotlaw06.UdpDecodes", spec := "udpDecodes", apart := false, narrowed := true }
def UdpDecodesUptoSaid : Prop := udpDecodesUptoRow.holds Try.pinned (OpenSpec.upto udpDecodesSpec)

/-- 'pitotlaw06.UdpBack', WHERE WHAT IT READS IS OF BULK AT MOST 1048576: true; the input reads as it did. -/
def udpBackUptoRow : OpenClaim := { program := "ytdmlcnecildliaa", sum := "70e86cb96bef3f135990d56f9230f125940618dcd8310bc1d698181d33d0fcab", func := "pitot/pitotlaw06.UdpBack", spec := "udpBack", apart := false, narrowed := true }
def UdpBackUptoSaid : Prop := udpBackUptoRow.holds Try.pinned (OpenSpec.upto udpBackSpec)

/-- 'pitotlaw06.UdpTold', WHERE WHAT IT READS IS OF BULK AT MOST 1048576: true; the input reads as it did. -/
def udpToldUptoRow : OpenClaim := { program := "ytdmlcnecildliaa", sum := "70e86cb96bef3f135990d56f9230f125940618dcd8310bc1d698181d33d0fcab", func := "pitot/pitotlaw06.UdpTold", spec := "udpTold", apart := false, narrowed := true }
def UdpToldUptoSaid : Prop := udpToldUptoRow.holds Try.pinned (OpenSpec.upto udpToldSpec)

/-- 'pitotlaw06.UdpCut', WHERE WHAT IT READS IS OF BULK AT MOST 1048576: true; the input reads as it did. -/
def udpCutUptoRow : OpenClaim := { program := "ytdmlcnecildliaa", sum := "70e86cb96bef3f135990d56f9230f125940618dcd8310bc1d698181d33d0fcab", func := "pitot/pitotlaw06.UdpCut", spec := "udpCut", apart := false, narrowed := true }
def UdpCutUptoSaid : Prop := udpCutUptoRow.holds Try.pinned (OpenSpec.upto udpCutSpec)

/-- 'pitotlaw06.UdpNone', WHERE WHAT IT READS IS OF BULK AT MOST 1048576: true; the input reads as it did. -/
def udpNoneUptoRow : OpenClaim := { program := "ytdmlcnecildliaa", sum := "70e86cb96bef3f135990d56f9230f125940618dcd8310bc1d698181d33d0fcab", func := "pitot/pitotlaw06.UdpNone", spec := "udpNone", apart := false, narrowed := true }
def UdpNoneUptoSaid : Prop := udpNoneUptoRow.holds Try.pinned (OpenSpec.upto udpNoneSpec)

/-- 'pitotlaw01.BitsBack', WHERE WHAT IT READS IS OF BULK AT MOST 1048576: true; the input reads as it did. -/
def bitsBackUptoRow : OpenClaim := { program := "ytdmlcnecildliaa", sum := "70e86cb96bef3f135990d56f9230f125940618dcd8310bc1d698181d33d0fcab", func := "pitot/pitotlaw01.BitsBack", spec := "bitsBack", apart := false, narrowed := true }
def BitsBackUptoSaid : Prop := bitsBackUptoRow.holds Try.pinned (OpenSpec.upto bitsBackSpec)

/-- 'pitotlaw01.BitsNil', WHERE WHAT IT READS IS OF BULK AT MOST 1048576: true; the input reads as it did. -/
def bitsNilUptoRow : OpenClaim := { program := "ytdmlcnecildliaa", sum := "70e86cb96bef3f135990d56f9230f125940618dcd8310bc1d698181d33d0fcab", func := "pitot/pitotlaw01.BitsNil", spec := "bitsNil", apart := false, narrowed := true }
def BitsNilUptoSaid : Prop := bitsNilUptoRow.holds Try.pinned (OpenSpec.upto bitsNilSpec)

end Rows
end Go.Proofs.Ytdmlcnecildliaa
