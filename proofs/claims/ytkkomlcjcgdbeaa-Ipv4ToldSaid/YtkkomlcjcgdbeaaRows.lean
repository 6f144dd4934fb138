/-
  No cell of these rows narrows 'for every input' (looked for: loops, veiled, ifaces, maps, wideKeys, modest, calm, conditions, laid).
  DERIVED. THE GIVEN ROWS OF THIS SEAT. 11 by the template 'for every input the law returns true; each argument reads behind the call as it read before'; 0 by the template 'total and deterministic' (their statements: YtkkomlcjcgdbeaaTotals.lean).
  GIVEN WITH THE SEED: the statements are not yours to turn. If you find one false, say at which input.
  Laid BY PROGRAM, IN A SANDBOX (cutbox-rows.mjs): the forced cells as the released guide's own fill.sh prints them over the translation 6c5bc83b53ecc6eb… (all of the seat's roots in one cut). By AI agents, Wed Nov 11 2026. No macro, syntax, notation, axiom, sorry.
-/
import Derived.Test.YtkkomlcjcgdbeaaChecked
import GoSem.Claim
import GoSem.ClaimJoined
import GoSem.ClaimMapViews
import Derived.JoinedTies
import Derived.KernelRfl
namespace Go.Proofs.Ytkkomlcjcgdbeaa
/- THE CELL 'sum', in the pinned program and in every row, IS THE sha256 OF THE DUMP (.gsa) THAT YtkkomlcjcgdbeaaProg.lean LOADS. Nothing in Lean hashes anything: it is a label: what it is worth is what the hold of that sum in a sandbox is worth. -/
noncomputable def Try.pinned : Pinned := { name := "ytkkomlcjcgdbeaa", sum := "6c5bc83b53ecc6eb9e5dd75741bc225e6e68fe7041184dc6643646eeffa8282d", checked := Try.checked }
namespace Rows
def none {H : Type} : Left H := { results := [], args := [] }

/-- 'pitotlaw07.IcmpEncodes': WHATEVER THE INPUT: true; the input reads as it did. -/
def icmpEncodesSpec : ChangeSpec := { name := "icmpEncodes", fn := fun _ => fun
  | [d] => { results := [.lit (.bool true)], args := [d] }
  | _ => none }
def icmpEncodesRow : OpenClaim := { program := "ytkkomlcjcgdbeaa", sum := "6c5bc83b53ecc6eb9e5dd75741bc225e6e68fe7041184dc6643646eeffa8282d", func := "pitot/pitotlaw07.IcmpEncodes", spec := "icmpEncodes", apart := false }
def IcmpEncodesSaid : Prop := icmpEncodesRow.holds Try.pinned (OpenSpec.ofChange icmpEncodesSpec)

/-- ITS FALSE NEIGHBOUR: 'it returns false'. Refute it at one input. -/
def icmpEncodesWrong : ChangeSpec := { name := "icmpEncodes", fn := fun _ => fun
  | [d] => { results := [.lit (.bool false)], args := [d] }
  | _ => none }
def IcmpEncodesWrongFalsely : Prop := icmpEncodesRow.holds Try.pinned (OpenSpec.ofChange icmpEncodesWrong)

/-- 'pitotlaw07.IcmpDecodes': WHATEVER THE INPUT: true; the input reads as it did. -/
def icmpDecodesSpec : ChangeSpec := { name := "icmpDecodes", fn := fun _ => fun
  | [d] => { results := [.lit (.bool true)], args := [d] }
  | _ => none }
def icmpDecodesRow : OpenClaim := { program := "ytkkomlcjcgdbeaa", sum := "6c5bc83b53ecc6eb9e5dd75741bc225e6e68fe7041184dc6643646eeffa8282d", func := "pitot/pitotlaw07.IcmpDecodes", spec := "icmpDecodes", apart := false }
def IcmpDecodesSaid : Prop := icmpDecodesRow.holds Try.pinned (OpenSpec.ofChange icmpDecodesSpec)

/-- ITS FALSE NEIGHBOUR: 'it returns false'. Refute it at one input. -/
def icmpDecodesWrong : ChangeSpec := { name := "icmpDecodes", fn := fun _ => fun
  | [d] => { results := [.lit (.bool false)], args := [d] }
  | _ => none }
def IcmpDecodesWrongFalsely : Prop := icmpDecodesRow.holds Try.pinned (OpenSpec.ofChange icmpDecodesWrong)

/-- 'pitotlaw07.IcmpBack': WHATEVER THE INPUT: true; the input reads as it did. -/
def icmpBackSpec : ChangeSpec := { name := "icmpBack", fn := fun _ => fun
  | [d1, d2] => { results := [.lit (.bool true)], args := [d1, d2] }
  | _ => none }
def icmpBackRow : OpenClaim := { program := "ytkkomlcjcgdbeaa", sum := "6c5bc83b53ecc6eb9e5dd75741bc225e6e68fe7041184dc6643646eeffa8282d", func := "pitot/pitotlaw07.IcmpBack", spec := "icmpBack", apart := false }
def IcmpBackSaid : Prop := icmpBackRow.holds Try.pinned (OpenSpec.ofChange icmpBackSpec)

/-- ITS FALSE NEIGHBOUR: 'it returns false'. Refute it at one input. -/
def icmpBackWrong : ChangeSpec := { name := "icmpBack", fn := fun _ => fun
  | [d1, d2] => { results := [.lit (.bool false)], args := [d1, d2] }
  | _ => none }
def IcmpBackWrongFalsely : Prop := icmpBackRow.holds Try.pinned (OpenSpec.ofChange icmpBackWrong)

/-- 'pitotlaw07.IcmpReplies': WHATEVER THE INPUT: true; the input reads as it did. -/
def icmpRepliesSpec : ChangeSpec := { name := "icmpReplies", fn := fun _ => fun
  | [d1, d2] => { results := [.lit (.bool true)], args := [d1, d2] }
  | _ => none }
def icmpRepliesRow : OpenClaim := { program := "ytkkomlcjcgdbeaa", sum := "6c5bc83b53ecc6eb9e5dd75741bc225e6e68fe7041184dc6643646eeffa8282d", func := "pitot/pitotlaw07.IcmpReplies", spec := "icmpReplies", apart := false }
def IcmpRepliesSaid : Prop := icmpRepliesRow.holds Try.pinned (OpenSpec.ofChange icmpRepliesSpec)

/-- ITS FALSE NEIGHBOUR: 'it returns false'. Refute it at one input. -/
def icmpRepliesWrong : ChangeSpec := { name := "icmpReplies", fn := fun _ => fun
  | [d1, d2] => { results := [.lit (.bool false)], args := [d1, d2] }
  | _ => none }
def IcmpRepliesWrongFalsely : Prop := icmpRepliesRow.holds Try.pinned (OpenSpec.ofChange icmpRepliesWrong)

/-- 'pitotlaw07.IcmpOnce': WHATEVER THE INPUT: true; the input reads as it did. -/
def icmpOnceSpec : ChangeSpec := { name := "icmpOnce", fn := fun _ => fun
  | [d1, d2, d3] => { results := [.lit (.bool true)], args := [d1, d2, d3] }
  | _ => none }
def icmpOnceRow : OpenClaim := { program := "ytkkomlcjcgdbeaa", sum := "6c5bc83b53ecc6eb9e5dd75741bc225e6e68fe7041184dc6643646eeffa8282d", func := "pitot/pitotlaw07.IcmpOnce", spec := "icmpOnce", apart := false }
def IcmpOnceSaid : Prop := icmpOnceRow.holds Try.pinned (OpenSpec.ofChange icmpOnceSpec)

/-- ITS FALSE NEIGHBOUR: 'it returns false'. Refute it at one input. -/
def icmpOnceWrong : ChangeSpec := { name := "icmpOnce", fn := fun _ => fun
  | [d1, d2, d3] => { results := [.lit (.bool false)], args := [d1, d2, d3] }
  | _ => none }
def IcmpOnceWrongFalsely : Prop := icmpOnceRow.holds Try.pinned (OpenSpec.ofChange icmpOnceWrong)

/-- 'pitotlaw05.Ipv4Encodes': WHATEVER THE INPUT: true; the input reads as it did. -/
def ipv4EncodesSpec : ChangeSpec := { name := "ipv4Encodes", fn := fun _ => fun
  | [d] => { results := [.lit (.bool true)], args := [d] }
  | _ => none }
def ipv4EncodesRow : OpenClaim := { program := "ytkkomlcjcgdbeaa", sum := "6c5bc83b53ecc6eb9e5dd75741bc225e6e68fe7041184dc6643646eeffa8282d", func := "pitot/pitotlaw05.Ipv4Encodes", spec := "ipv4Encodes", apart := false }
def Ipv4EncodesSaid : Prop := ipv4EncodesRow.holds Try.pinned (OpenSpec.ofChange ipv4EncodesSpec)

/-- ITS FALSE NEIGHBOUR: 'it returns false'. Refute it at one input. -/
def ipv4EncodesWrong : ChangeSpec := { name := "ipv4Encodes", fn := fun _ => fun
  | [d] => { results := [.lit (.bool false)], args := [d] }
  | _ => none }
def Ipv4EncodesWrongFalsely : Prop := ipv4EncodesRow.holds Try.pinned (OpenSpec.ofChange ipv4EncodesWrong)

/-- 'pitotlaw05.Ipv4Decodes': WHATEVER THE INPUT: true; the input reads as it did. -/
def ipv4DecodesSpec : ChangeSpec := { name := "ipv4Decodes", fn := fun _ => fun
  | [d] => { results := [.lit (.bool true)], args := [d] }
  | _ => none }
def ipv4DecodesRow : OpenClaim := { program := "ytkkomlcjcgdbeaa", sum := "6c5bc83b53ecc6eb9e5dd75741bc225e6e68fe7041184dc6643646eeffa8282d", func := "pitot/pitotlaw05.Ipv4Decodes", spec := "ipv4Decodes", apart := false }
def Ipv4DecodesSaid : Prop := ipv4DecodesRow.holds Try.pinned (OpenSpec.ofChange ipv4DecodesSpec)

/-- ITS FALSE NEIGHBOUR: 'it returns false'. Refute it at one input. -/
def ipv4DecodesWrong : ChangeSpec := { name := "ipv4Decodes", fn := fun _ => fun
  | [d] => { results := [.lit (.bool false)], args := [d] }
  | _ => none }
def Ipv4DecodesWrongFalsely : Prop := ipv4DecodesRow.holds Try.pinned (OpenSpec.ofChange ipv4DecodesWrong)

/-- 'pitotlaw05.Ipv4Back': WHATEVER THE INPUT: true; the input reads as it did. -/
def ipv4BackSpec : ChangeSpec := { name := "ipv4Back", fn := fun _ => fun
  | [d1, d2] => { results := [.lit (.bool true)], args := [d1, d2] }
  | _ => none }
def ipv4BackRow : OpenClaim := { program := "ytkkomlcjcgdbeaa", sum := "6c5bc83b53ecc6eb9e5dd75741bc225e6e68fe7041184dc6643646eeffa8282d", func := "pitot/pitotlaw05.Ipv4Back", spec := "ipv4Back", apart := false }
def Ipv4BackSaid : Prop := ipv4BackRow.holds Try.pinned (OpenSpec.ofChange ipv4BackSpec)

/-- ITS FALSE NEIGHBOUR: 'it returns false'. Refute it at one input. -/
def ipv4BackWrong : ChangeSpec := { name := "ipv4Back", fn := fun _ => fun
  | [d1, d2] => { results := [.lit (.bool false)], args := [d1, d2] }
  | _ => none }
def Ipv4BackWrongFalsely : Prop := ipv4BackRow.holds Try.pinned (OpenSpec.ofChange ipv4BackWrong)

/-- 'pitotlaw05.Ipv4Again': WHATEVER THE INPUT: true; the input reads as it did. -/
def ipv4AgainSpec : ChangeSpec := { name := "ipv4Again", fn := fun _ => fun
  | [d] => { results := [.lit (.bool true)], args := [d] }
  | _ => none }
def ipv4AgainRow : OpenClaim := { program := "ytkkomlcjcgdbeaa", sum := "6c5bc83b53ecc6eb9e5dd75741bc225e6e68fe7041184dc6643646eeffa8282d", func := "pitot/pitotlaw05.Ipv4Again", spec := "ipv4Again", apart := false }
def Ipv4AgainSaid : Prop := ipv4AgainRow.holds Try.pinned (OpenSpec.ofChange ipv4AgainSpec)

/-- ITS FALSE NEIGHBOUR: 'it returns false'. Refute it at one input. -/
def ipv4AgainWrong : ChangeSpec := { name := "ipv4Again", fn := fun _ => fun
  | [d] => { results := [.lit (.bool false)], args := [d] }
  | _ => none }
def Ipv4AgainWrongFalsely : Prop := ipv4AgainRow.holds Try.pinned (OpenSpec.ofChange ipv4AgainWrong)

/-- 'pitotlaw05.Ipv4Told': WHATEVER THE INPUT: true; the input reads as it did. -/
def ipv4ToldSpec : ChangeSpec := { name := "ipv4Told", fn := fun _ => fun
  | [d1, d2, d3] => { results := [.lit (.bool true)], args := [d1, d2, d3] }
  | _ => none }
def ipv4ToldRow : OpenClaim := { program := "ytkkomlcjcgdbeaa", sum := "6c5bc83b53ecc6eb9e5dd75741bc225e6e68fe7041184dc6643646eeffa8282d", func := "pitot/pitotlaw05.Ipv4Told", spec := "ipv4Told", apart := false }
def Ipv4ToldSaid : Prop := ipv4ToldRow.holds Try.pinned (OpenSpec.ofChange ipv4ToldSpec)

/-- ITS FALSE NEIGHBOUR: 'it returns false'. Refute it at one input. -/
def ipv4ToldWrong : ChangeSpec := { name := "ipv4Told", fn := fun _ => fun
  | [d1, d2, d3] => { results := [.lit (.bool false)], args := [d1, d2, d3] }
  | _ => none }
def Ipv4ToldWrongFalsely : Prop := ipv4ToldRow.holds Try.pinned (OpenSpec.ofChange ipv4ToldWrong)

/-- 'pitotlaw05.Ipv4Parts': WHATEVER THE INPUT: true; the input reads as it did. -/
def ipv4PartsSpec : ChangeSpec := { name := "ipv4Parts", fn := fun _ => fun
  | [d] => { results := [.lit (.bool true)], args := [d] }
  | _ => none }
def ipv4PartsRow : OpenClaim := { program := "ytkkomlcjcgdbeaa", sum := "6c5bc83b53ecc6eb9e5dd75741bc225e6e68fe7041184dc6643646eeffa8282d", func := "pitot/pitotlaw05.Ipv4Parts", spec := "ipv4Parts", apart := false }
def Ipv4PartsSaid : Prop := ipv4PartsRow.holds Try.pinned (OpenSpec.ofChange ipv4PartsSpec)

/-- ITS FALSE NEIGHBOUR: 'it returns false'. Refute it at one input. -/
def ipv4PartsWrong : ChangeSpec := { name := "ipv4Parts", fn := fun _ => fun
  | [d] => { results := [.lit (.bool false)], args := [d] }
  | _ => none }
def Ipv4PartsWrongFalsely : Prop := ipv4PartsRow.holds Try.pinned (OpenSpec.ofChange ipv4PartsWrong)

/- THE SECOND FORM. 'bulk': how many values and letters a reading holds, each counted each time it is reached (what is shared counts as often as it is met; a slice's spare places count too). A statement '..UptoSaid' is the law's where the arguments, and the package variables that the reading takes, are together of bulk at most 1048576: NARROWER than '..Said'. Prove '..Said' where nothing that the law and all that it calls make is longer than what came in: it says more and counts as full. Else prove '..UptoSaid'. A law counts once. -/
mutual
def uptoBulk {H : Type} : DataW H → Nat
  | .lit (.string bytes) => bytes.length + 1
  | .lit _ => 1
  | .nil => 1
  | .ptr d => uptoBulk d + 1
  | .slice elems spare => uptoBulkAll elems + uptoBulkAll spare + 1
  | .agg parts => uptoBulkAll parts + 1
  | .iface _ d => uptoBulk d + 1
  | .map entries => uptoBulkEntries entries + 1
  | .held _ => 1
def uptoBulkAll {H : Type} : List (DataW H) → Nat
  | [] => 0
  | d :: r => uptoBulk d + uptoBulkAll r
def uptoBulkEntries {H : Type} : List (Lit × DataW H) → Nat
  | [] => 0
  | x :: r => uptoBulkEntry x + uptoBulkEntries r
def uptoBulkEntry {H : Type} : Lit × DataW H → Nat
  | (.string bytes, d) => bytes.length + uptoBulk d + 1
  | (_, d) => uptoBulk d + 1
 end
def uptoSmall : (H : Type) → List (DataW H) → Bool := fun _ ds => decide (uptoBulkAll ds ≤ 1048576)
def OpenSpec.upto (s : _root_.Go.ChangeSpec) : _root_.Go.OpenSpec := { _root_.Go.OpenSpec.ofChange s with cond := some uptoSmall }

/-- 'pitotlaw07.IcmpEncodes', WHERE WHAT IT READS IS OF BULK AT MOST 1048576: true; the input reads as it did. -/
def icmpEncodesUptoRow : OpenClaim := { program := "ytkkomlcjcgdbeaa", sum := "6c5bc83b53ecc6eb9e5dd75741bc225e6e68fe7041184dc6643646eeffa8282d", func := "pitot/pitotlaw07.IcmpEncodes", spec := "icmpEncodes", apart := false, narrowed := true }
def IcmpEncodesUptoSaid : Prop := icmpEncodesUptoRow.holds Try.pinned (OpenSpec.upto icmpEncodesSpec)

/-- 'pitotlaw07.IcmpDecodes', WHERE WHAT IT READS IS OF BULK AT MOST 1048576: true; the input reads as it did. -/
def icmpDecodesUptoRow : OpenClaim := { program := "ytkkomlcjcgdbeaa", sum := "6c5bc83b53ecc6eb9e5dd75741bc225e6e68fe7041184dc6643646eeffa8282d", func := "pitot/pitotlaw07.IcmpDecodes", spec := "icmpDecodes", apart := false, narrowed := true }
def IcmpDecodesUptoSaid : Prop := icmpDecodesUptoRow.holds Try.pinned (OpenSpec.upto icmpDecodesSpec)

/-- 'pitotlaw07.IcmpBack', WHERE WHAT IT READS IS OF BULK AT MOST 1048576: true; the input reads as it did. -/
def icmpBackUptoRow : OpenClaim := { program := "ytkkomlcjcgdbeaa", sum := "6c5bc83b53ecc6eb9e5dd75741bc225e6e68fe7041184dc6643646eeffa8282d", func := "pitot/pitotlaw07.IcmpBack", spec := "icmpBack", apart := false, narrowed := true }
def IcmpBackUptoSaid : Prop := icmpBackUptoRow.holds Try.pinned (OpenSpec.upto icmpBackSpec)

/-- 'pitotlaw07.IcmpReplies', WHERE WHAT IT READS IS OF BULK AT MOST 1048576: true; the input reads as it did. -/
def icmpRepliesUptoRow : OpenClaim := { program := "ytkkomlcjcgdbeaa", sum := "6c5bc83b53ecc6eb9e5dd75741bc225e6e68fe7041184dc6643646eeffa8282d", func := "pitot/pitotlaw07.IcmpReplies", spec := "icmpReplies", apart := false, narrowed := true }
def IcmpRepliesUptoSaid : Prop := icmpRepliesUptoRow.holds Try.pinned (OpenSpec.upto icmpRepliesSpec)

/-- 'pitotlaw07.IcmpOnce', WHERE WHAT IT READS IS OF BULK AT MOST 1048576: true; the input reads as it did. -/
def icmpOnceUptoRow : OpenClaim := { program := "ytkkomlcjcgdbeaa", sum := "6c5bc83b53ecc6eb9e5dd75741bc225e6e68fe7041184dc6643646eeffa8282d", func := "pitot/pitotlaw07.IcmpOnce", spec := "icmpOnce", apart := false, narrowed := true }
def IcmpOnceUptoSaid : Prop := icmpOnceUptoRow.holds Try.pinned (OpenSpec.upto icmpOnceSpec)

/-- 'pitotlaw05.Ipv4Encodes', WHERE WHAT IT READS IS OF BULK AT MOST 1048576: true; the input reads as it did. -/
def ipv4EncodesUptoRow : OpenClaim := { program := "ytkkomlcjcgdbeaa", sum := "6c5bc83b53ecc6eb9e5dd75741bc225e6e68fe7041184dc6643646eeffa8282d", func := "pitot/pitotlaw05.Ipv4Encodes", spec := "ipv4Encodes", apart := false, narrowed := true }
def Ipv4EncodesUptoSaid : Prop := ipv4EncodesUptoRow.holds Try.pinned (OpenSpec.upto ipv4EncodesSpec)

/-- 'pitotlaw05.Ipv4Decodes', WHERE WHAT IT READS IS OF BULK AT MOST 1048576: true; the input reads as it did. -/
def ipv4DecodesUptoRow : OpenClaim := { program := "ytkkomlcjcgdbeaa", sum := "6c5bc83b53ecc6eb9e5dd75741bc225e6e68fe7041184dc6643646eeffa8282d", func := "pitot/pitotlaw05.Ipv4Decodes", spec := "ipv4Decodes", apart := false, narrowed := true }
def Ipv4DecodesUptoSaid : Prop := ipv4DecodesUptoRow.holds Try.pinned (OpenSpec.upto ipv4DecodesSpec)

/-- 'pitotlaw05.Ipv4Back', WHERE WHAT IT READS IS OF BULK AT MOST 1048576: true; the input reads as it did. -/
def ipv4BackUptoRow : OpenClaim := { program := "ytkkomlcjcgdbeaa", sum := "6c5bc83b53ecc6eb9e5dd75741bc225e6e68fe7041184dc6643646eeffa8282d", func := "pitot/pitotlaw05.Ipv4Back", spec := "ipv4Back", apart := false, narrowed := true }
def Ipv4BackUptoSaid : Prop := ipv4BackUptoRow.holds Try.pinned (OpenSpec.upto ipv4BackSpec)

/-- 'pitotlaw05.Ipv4Again', WHERE WHAT IT READS IS OF BULK AT MOST 1048576: true; the input reads as it did. -/
def ipv4AgainUptoRow : OpenClaim := { program := "ytkkomlcjcgdbeaa", sum := "6c5bc83b53ecc6eb9e5dd75741bc225e6e68fe7041184dc6643646eeffa8282d", func := "pitot/pitotlaw05.Ipv4Again", spec := "ipv4Again", apart := false, narrowed := true }
def Ipv4AgainUptoSaid : Prop := ipv4AgainUptoRow.holds Try.pinned (OpenSpec.upto ipv4AgainSpec)

/-- 'pitotlaw05.Ipv4Told', WHERE WHAT IT READS IS OF BULK AT MOST 1048576: true; the input reads as it did. -/
def ipv4ToldUptoRow : OpenClaim := { program := "ytkkomlcjcgdbeaa", sum := "6c5bc83b53ecc6eb9e5dd75741bc225e6e68fe7041184dc6643646eeffa8282d", func := "pitot/pitotlaw05.Ipv4Told", spec := "ipv4Told", apart := false, narrowed := true }
def Ipv4ToldUptoSaid : Prop := ipv4ToldUptoRow.holds Try.pinned (OpenSpec.upto ipv4ToldSpec)

/-- 'pitotlaw05.Ipv4Parts', WHERE WHAT IT READS IS OF BULK AT MOST 1048576: true; the input reads as it did. -/
def ipv4PartsUptoRow : OpenClaim := { program := "ytkkomlcjcgdbeaa", sum := "6c5bc83b53ecc6eb9e5dd75741bc225e6e68fe7041184dc6643646eeffa8282d", func := "pitot/pitotlaw05.Ipv4Parts", spec := "ipv4Parts", apart := false, narrowed := true }
def Ipv4PartsUptoSaid : Prop := ipv4PartsUptoRow.holds Try.pinned (OpenSpec.upto ipv4PartsSpec)

end Rows
end Go.Proofs.Ytkkomlcjcgdbeaa
