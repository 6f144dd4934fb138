/-
  No cell of these rows narrows 'for every input' (looked for: loops, veiled, ifaces, maps, wideKeys, modest, calm, conditions, laid).
  DERIVED. THE GIVEN ROWS OF THIS SEAT. 12 by the template 'for every input the law returns true; each argument reads behind the call as it read before'; 0 by the template 'total and deterministic' (their statements: YtjpbpfihacfndaaTotals.lean).
  GIVEN WITH THE SEED: the statements are not yours to turn. If you find one false, say at which input.
  Laid BY PROGRAM, IN A SANDBOX (cutbox-rows.mjs): the forced cells as the released guide's own fill.sh prints them over the translation 251af533236f9c92… (all of the seat's roots in one cut). By AI agents, Wed Nov 11 2026. No macro, syntax, notation, axiom, sorry.
-/
import Derived.Test.YtjpbpfihacfndaaChecked
import GoSem.Claim
import GoSem.ClaimJoined
import GoSem.ClaimMapViews
import Derived.JoinedTies
import Derived.KernelRfl
namespace Go.Proofs.Ytjpbpfihacfndaa
/- THE CELL 'sum', in the pinned program and in every row, IS THE sha256 OF THE DUMP (.gsa) THAT YtjpbpfihacfndaaProg.lean LOADS. Nothing in Lean hashes anything: it is a label: what it is worth is what the hold of that sum in a sandbox is worth. -/
noncomputable def Try.pinned : Pinned := { name := "ytjpbpfihacfndaa", sum := "251af533236f9c92a53dc5c36063d3fafa7336599419a45af4291207534aa8f0", checked := Try.checked }
namespace Rows
def none {H : Type} : Left H := { results := [], args := [] }

/-- 'pitotlaw08.FragCounts': WHATEVER THE INPUT: true; the input reads as it did. -/
def fragCountsSpec : ChangeSpec := { name := "fragCounts", fn := fun _ => fun
  | [d1, d2] => { results := [.lit (.bool true)], args := [d1, d2] }
  | _ => none }
def fragCountsRow : OpenClaim := { program := "ytjpbpfihacfndaa", sum := "251af533236f9c92a53dc5c36063d3fafa7336599419a45af4291207534aa8f0", func := "pitot/pitotlaw08.FragCounts", spec := "fragCounts", inPlace := ["internal/abi.NoEscape"], unfollowed := true, recurses := true, plainKeys := false, apart := false }
def FragCountsSaid : Prop := fragCountsRow.holds Try.pinned (OpenSpec.ofChange fragCountsSpec)

/-- ITS FALSE NEIGHBOUR: 'it returns false'. Refute it at one input. -/
def fragCountsWrong : ChangeSpec := { name := "fragCounts", fn := fun _ => fun
  | [d1, d2] => { results := [.lit (.bool false)], args := [d1, d2] }
  | _ => none }
def FragCountsWrongFalsely : Prop := fragCountsRow.holds Try.pinned (OpenSpec.ofChange fragCountsWrong)

/-- 'pitotlaw08.FragJoins': WHATEVER THE INPUT: true; the input reads as it did. -/
def fragJoinsSpec : ChangeSpec := { name := "fragJoins", fn := fun _ => fun
  | [d] => { results := [.lit (.bool true)], args := [d] }
  | _ => none }
def fragJoinsRow : OpenClaim := { program := "ytjpbpfihacfndaa", sum := "251af533236f9c92a53dc5c36063d3fafa7336599419a45af4291207534aa8f0", func := "pitot/pitotlaw08.FragJoins", spec := "fragJoins", inPlace := ["internal/abi.NoEscape"], unfollowed := true, recurses := true, plainKeys := false, apart := false }
def FragJoinsSaid : Prop := fragJoinsRow.holds Try.pinned (OpenSpec.ofChange fragJoinsSpec)

/-- ITS FALSE NEIGHBOUR: 'it returns false'. Refute it at one input. -/
def fragJoinsWrong : ChangeSpec := { name := "fragJoins", fn := fun _ => fun
  | [d] => { results := [.lit (.bool false)], args := [d] }
  | _ => none }
def FragJoinsWrongFalsely : Prop := fragJoinsRow.holds Try.pinned (OpenSpec.ofChange fragJoinsWrong)

/-- 'pitotlaw08.FragSplits': WHATEVER THE INPUT: true; the input reads as it did. -/
def fragSplitsSpec : ChangeSpec := { name := "fragSplits", fn := fun _ => fun
  | [d1, d2] => { results := [.lit (.bool true)], args := [d1, d2] }
  | _ => none }
def fragSplitsRow : OpenClaim := { program := "ytjpbpfihacfndaa", sum := "251af533236f9c92a53dc5c36063d3fafa7336599419a45af4291207534aa8f0", func := "pitot/pitotlaw08.FragSplits", spec := "fragSplits", inPlace := ["internal/abi.NoEscape"], unfollowed := true, recurses := true, plainKeys := false, apart := false }
def FragSplitsSaid : Prop := fragSplitsRow.holds Try.pinned (OpenSpec.ofChange fragSplitsSpec)

/-- ITS FALSE NEIGHBOUR: 'it returns false'. Refute it at one input. -/
def fragSplitsWrong : ChangeSpec := { name := "fragSplits", fn := fun _ => fun
  | [d1, d2] => { results := [.lit (.bool false)], args := [d1, d2] }
  | _ => none }
def FragSplitsWrongFalsely : Prop := fragSplitsRow.holds Try.pinned (OpenSpec.ofChange fragSplitsWrong)

/-- 'pitotlaw08.FragLeast': WHATEVER THE INPUT: true; the input reads as it did. -/
def fragLeastSpec : ChangeSpec := { name := "fragLeast", fn := fun _ => fun
  | [d1, d2] => { results := [.lit (.bool true)], args := [d1, d2] }
  | _ => none }
def fragLeastRow : OpenClaim := { program := "ytjpbpfihacfndaa", sum := "251af533236f9c92a53dc5c36063d3fafa7336599419a45af4291207534aa8f0", func := "pitot/pitotlaw08.FragLeast", spec := "fragLeast", inPlace := ["internal/abi.NoEscape"], unfollowed := true, recurses := true, plainKeys := false, apart := false }
def FragLeastSaid : Prop := fragLeastRow.holds Try.pinned (OpenSpec.ofChange fragLeastSpec)

/-- ITS FALSE NEIGHBOUR: 'it returns false'. Refute it at one input. -/
def fragLeastWrong : ChangeSpec := { name := "fragLeast", fn := fun _ => fun
  | [d1, d2] => { results := [.lit (.bool false)], args := [d1, d2] }
  | _ => none }
def FragLeastWrongFalsely : Prop := fragLeastRow.holds Try.pinned (OpenSpec.ofChange fragLeastWrong)

/-- 'pitotlaw08.FragSmall': WHATEVER THE INPUT: true; the input reads as it did. -/
def fragSmallSpec : ChangeSpec := { name := "fragSmall", fn := fun _ => fun
  | [d1, d2] => { results := [.lit (.bool true)], args := [d1, d2] }
  | _ => none }
def fragSmallRow : OpenClaim := { program := "ytjpbpfihacfndaa", sum := "251af533236f9c92a53dc5c36063d3fafa7336599419a45af4291207534aa8f0", func := "pitot/pitotlaw08.FragSmall", spec := "fragSmall", inPlace := ["internal/abi.NoEscape"], unfollowed := true, recurses := true, plainKeys := false, apart := false }
def FragSmallSaid : Prop := fragSmallRow.holds Try.pinned (OpenSpec.ofChange fragSmallSpec)

/-- ITS FALSE NEIGHBOUR: 'it returns false'. Refute it at one input. -/
def fragSmallWrong : ChangeSpec := { name := "fragSmall", fn := fun _ => fun
  | [d1, d2] => { results := [.lit (.bool false)], args := [d1, d2] }
  | _ => none }
def FragSmallWrongFalsely : Prop := fragSmallRow.holds Try.pinned (OpenSpec.ofChange fragSmallWrong)

/-- 'pitotlaw09.ReasmPlays': WHATEVER THE INPUT: true; the input reads as it did. -/
def reasmPlaysSpec : ChangeSpec := { name := "reasmPlays", fn := fun _ => fun
  | [d1, d2, d3] => { results := [.lit (.bool true)], args := [d1, d2, d3] }
  | _ => none }
def reasmPlaysRow : OpenClaim := { program := "ytjpbpfihacfndaa", sum := "251af533236f9c92a53dc5c36063d3fafa7336599419a45af4291207534aa8f0", func := "pitot/pitotlaw09.ReasmPlays", spec := "reasmPlays", unfollowed := true, recurses := true, plainKeys := false, apart := false }
def ReasmPlaysSaid : Prop := reasmPlaysRow.holds Try.pinned (OpenSpec.ofChange reasmPlaysSpec)

/-- ITS FALSE NEIGHBOUR: 'it returns false'. Refute it at one input. -/
def reasmPlaysWrong : ChangeSpec := { name := "reasmPlays", fn := fun _ => fun
  | [d1, d2, d3] => { results := [.lit (.bool false)], args := [d1, d2, d3] }
  | _ => none }
def ReasmPlaysWrongFalsely : Prop := reasmPlaysRow.holds Try.pinned (OpenSpec.ofChange reasmPlaysWrong)

/-- 'pitotlaw09.ReasmWaits': WHATEVER THE INPUT: true; the input reads as it did. -/
def reasmWaitsSpec : ChangeSpec := { name := "reasmWaits", fn := fun _ => fun
  | [d1, d2] => { results := [.lit (.bool true)], args := [d1, d2] }
  | _ => none }
def reasmWaitsRow : OpenClaim := { program := "ytjpbpfihacfndaa", sum := "251af533236f9c92a53dc5c36063d3fafa7336599419a45af4291207534aa8f0", func := "pitot/pitotlaw09.ReasmWaits", spec := "reasmWaits", unfollowed := true, recurses := true, plainKeys := false, apart := false }
def ReasmWaitsSaid : Prop := reasmWaitsRow.holds Try.pinned (OpenSpec.ofChange reasmWaitsSpec)

/-- ITS FALSE NEIGHBOUR: 'it returns false'. Refute it at one input. -/
def reasmWaitsWrong : ChangeSpec := { name := "reasmWaits", fn := fun _ => fun
  | [d1, d2] => { results := [.lit (.bool false)], args := [d1, d2] }
  | _ => none }
def ReasmWaitsWrongFalsely : Prop := reasmWaitsRow.holds Try.pinned (OpenSpec.ofChange reasmWaitsWrong)

/-- 'pitotlaw09.ReasmNil': WHATEVER THE INPUT: true; the input reads as it did. -/
def reasmNilSpec : ChangeSpec := { name := "reasmNil", fn := fun _ => fun
  | [d1, d2] => { results := [.lit (.bool true)], args := [d1, d2] }
  | _ => none }
def reasmNilRow : OpenClaim := { program := "ytjpbpfihacfndaa", sum := "251af533236f9c92a53dc5c36063d3fafa7336599419a45af4291207534aa8f0", func := "pitot/pitotlaw09.ReasmNil", spec := "reasmNil", unfollowed := true, recurses := true, plainKeys := false, apart := false }
def ReasmNilSaid : Prop := reasmNilRow.holds Try.pinned (OpenSpec.ofChange reasmNilSpec)

/-- ITS FALSE NEIGHBOUR: 'it returns false'. Refute it at one input. -/
def reasmNilWrong : ChangeSpec := { name := "reasmNil", fn := fun _ => fun
  | [d1, d2] => { results := [.lit (.bool false)], args := [d1, d2] }
  | _ => none }
def ReasmNilWrongFalsely : Prop := reasmNilRow.holds Try.pinned (OpenSpec.ofChange reasmNilWrong)

/-- 'pitotlaw09.ReasmAlone': WHATEVER THE INPUT: true; the input reads as it did. -/
def reasmAloneSpec : ChangeSpec := { name := "reasmAlone", fn := fun _ => fun
  | [d1, d2] => { results := [.lit (.bool true)], args := [d1, d2] }
  | _ => none }
def reasmAloneRow : OpenClaim := { program := "ytjpbpfihacfndaa", sum := "251af533236f9c92a53dc5c36063d3fafa7336599419a45af4291207534aa8f0", func := "pitot/pitotlaw09.ReasmAlone", spec := "reasmAlone", unfollowed := true, recurses := true, plainKeys := false, apart := false }
def ReasmAloneSaid : Prop := reasmAloneRow.holds Try.pinned (OpenSpec.ofChange reasmAloneSpec)

/-- ITS FALSE NEIGHBOUR: 'it returns false'. Refute it at one input. -/
def reasmAloneWrong : ChangeSpec := { name := "reasmAlone", fn := fun _ => fun
  | [d1, d2] => { results := [.lit (.bool false)], args := [d1, d2] }
  | _ => none }
def ReasmAloneWrongFalsely : Prop := reasmAloneRow.holds Try.pinned (OpenSpec.ofChange reasmAloneWrong)

/-- 'pitotlaw09.ReasmWhole': WHATEVER THE INPUT: true; the input reads as it did. -/
def reasmWholeSpec : ChangeSpec := { name := "reasmWhole", fn := fun _ => fun
  | [d1, d2, d3] => { results := [.lit (.bool true)], args := [d1, d2, d3] }
  | _ => none }
def reasmWholeRow : OpenClaim := { program := "ytjpbpfihacfndaa", sum := "251af533236f9c92a53dc5c36063d3fafa7336599419a45af4291207534aa8f0", func := "pitot/pitotlaw09.ReasmWhole", spec := "reasmWhole", unfollowed := true, recurses := true, plainKeys := false, apart := false }
def ReasmWholeSaid : Prop := reasmWholeRow.holds Try.pinned (OpenSpec.ofChange reasmWholeSpec)

/-- ITS FALSE NEIGHBOUR: 'it returns false'. Refute it at one input. -/
def reasmWholeWrong : ChangeSpec := { name := "reasmWhole", fn := fun _ => fun
  | [d1, d2, d3] => { results := [.lit (.bool false)], args := [d1, d2, d3] }
  | _ => none }
def ReasmWholeWrongFalsely : Prop := reasmWholeRow.holds Try.pinned (OpenSpec.ofChange reasmWholeWrong)

/-- 'pitotlaw09.ReasmOnly': WHATEVER THE INPUT: true; the input reads as it did. -/
def reasmOnlySpec : ChangeSpec := { name := "reasmOnly", fn := fun _ => fun
  | [d] => { results := [.lit (.bool true)], args := [d] }
  | _ => none }
def reasmOnlyRow : OpenClaim := { program := "ytjpbpfihacfndaa", sum := "251af533236f9c92a53dc5c36063d3fafa7336599419a45af4291207534aa8f0", func := "pitot/pitotlaw09.ReasmOnly", spec := "reasmOnly", inPlace := ["internal/abi.NoEscape"], unfollowed := true, recurses := true, plainKeys := false, apart := false }
def ReasmOnlySaid : Prop := reasmOnlyRow.holds Try.pinned (OpenSpec.ofChange reasmOnlySpec)

/-- ITS FALSE NEIGHBOUR: 'it returns false'. Refute it at one input. -/
def reasmOnlyWrong : ChangeSpec := { name := "reasmOnly", fn := fun _ => fun
  | [d] => { results := [.lit (.bool false)], args := [d] }
  | _ => none }
def ReasmOnlyWrongFalsely : Prop := reasmOnlyRow.holds Try.pinned (OpenSpec.ofChange reasmOnlyWrong)

/-- 'pitotlaw08.FragBack': WHATEVER THE INPUT: true; the input reads as it did. -/
def fragBackSpec : ChangeSpec := { name := "fragBack", fn := fun _ => fun
  | [d1, d2] => { results := [.lit (.bool true)], args := [d1, d2] }
  | _ => none }
def fragBackRow : OpenClaim := { program := "ytjpbpfihacfndaa", sum := "251af533236f9c92a53dc5c36063d3fafa7336599419a45af4291207534aa8f0", func := "pitot/pitotlaw08.FragBack", spec := "fragBack", inPlace := ["internal/abi.NoEscape"], unfollowed := true, recurses := true, plainKeys := false, apart := false }
def FragBackSaid : Prop := fragBackRow.holds Try.pinned (OpenSpec.ofChange fragBackSpec)

/-- ITS FALSE NEIGHBOUR: 'it returns false'. Refute it at one input. -/
def fragBackWrong : ChangeSpec := { name := "fragBack", fn := fun _ => fun
  | [d1, d2] => { results := [.lit (.bool false)], args := [d1, d2] }
  | _ => none }
def FragBackWrongFalsely : Prop := fragBackRow.holds Try.pinned (OpenSpec.ofChange fragBackWrong)

/- THE SECOND FORM. 'bulk': how many values and letters a reading holds, each counted each time it is reached (what is shared counts as often as it is met; a slice's spare places count too). A statement '..UptoSaid' is the law's where the arguments, and the package variables that the reading takes, are together of bulk at most 1048576: NARROWER than '..Said'. Prove '..Said' where nothing that the law and all that it calls make is longer than what came in: it says more and counts as full. Else prove '..UptoSaid'. A law counts once. -/
mutual
def uptoBulk {H : Type} : DataW H → Nat
  | .lit (.string bytes) => bytes.length + 1
  | .lit _ => 1
  | .nil => 1
  | .ptr d => uptoBulk d + 1
  | .slice elems spare => uptoBulkAll elems + uptoBulkAll spare + 1
  | .agg parts => uptoBulkAll parts + 1
  | .iface _ d => uptoBulk d + 1
  | .map entries => uptoBulkEntries entries + 1
  | .held _ => 1
def uptoBulkAll {H : Type} : List (DataW H) → Nat
  | [] => 0
  | d :: r => uptoBulk d + uptoBulkAll r
def uptoBulkEntries {H : Type} : List (Lit × DataW H) → Nat
  | [] => 0
  | x :: r => uptoBulkEntry x + uptoBulkEntries r
def uptoBulkEntry {H : Type} : Lit × DataW H → Nat
  | (.string bytes, d) => bytes.length + uptoBulk d + 1
  | (_, d) => uptoBulk d + 1
 end
def uptoSmall : (H : Type) → List (DataW H) → Bool := fun _ ds => decide (uptoBulkAll ds ≤ 1048576)
def OpenSpec.upto (s : _root_.Go.ChangeSpec) : _root_.Go.OpenSpec := { _root_.Go.OpenSpec.ofChange s with cond := some uptoSmall }

/-- 'pitotlaw08.FragCounts', WHERE WHAT IT READS IS OF BULK AT MOST 1048576: true; the input reads as it did. -/
def fragCountsUptoRow : OpenClaim := { program := "ytjpbpfihacfndaa", sum := "251af533236f9c92a53dc5c36063d3fafa7336599419a45af4291207534aa8f0", func := "pitot/pitotlaw08.FragCounts", spec := "fragCounts", inPlace := ["internal/abi.NoEscape"], unfollowed := true, recurses := true, plainKeys := false, apart := false, narrowed := true }
def FragCountsUptoSaid : Prop := fragCountsUptoRow.holds Try.pinned (OpenSpec.upto fragCountsSpec)

/-- 'pitotlaw08.FragJoins', WHERE WHAT IT READS IS OF BULK AT MOST 1048576: true; the input reads as it did. -/
def fragJoinsUptoRow : OpenClaim := { program := "ytjpbpfihacfndaa", sum := "251af533236f9c92a53dc5c36063d3fafa7336599419a45af4291207534aa8f0", func := "pitot/pitotlaw08.FragJoins", spec := "fragJoins", inPlace := ["internal/abi.NoEscape"], unfollowed := true, recurses := true, plainKeys := false, apart := false, narrowed := true }
def FragJoinsUptoSaid : Prop := fragJoinsUptoRow.holds Try.pinned (OpenSpec.upto fragJoinsSpec)

/-- 'pitotlaw08.FragSplits', WHERE WHAT IT READS IS OF BULK AT MOST 1048576: true; the input reads as it did. -/
def fragSplitsUptoRow : OpenClaim := { program := "ytjpbpfihacfndaa", sum := "251af533236f9c92a53dc5c36063d3fafa7336599419a45af4291207534aa8f0", func := "pitot/pitotlaw08.FragSplits", spec := "fragSplits", inPlace := ["internal/abi.NoEscape"], unfollowed := true, recurses := true, plainKeys := false, apart := false, narrowed := true }
def FragSplitsUptoSaid : Prop := fragSplitsUptoRow.holds Try.pinned (OpenSpec.upto fragSplitsSpec)

/-- 'pitotlaw08.FragLeast', WHERE WHAT IT READS IS OF BULK AT MOST 1048576: true; the input reads as it did. -/
def fragLeastUptoRow : OpenClaim := { program := "ytjpbpfihacfndaa", sum := "251af533236f9c92a53dc5c36063d3fafa7336599419a45af4291207534aa8f0", func := "pitot/pitotlaw08.FragLeast", spec := "fragLeast", inPlace := ["internal/abi.NoEscape"], unfollowed := true, recurses := true, plainKeys := false, apart := false, narrowed := true }
def FragLeastUptoSaid : Prop := fragLeastUptoRow.holds Try.pinned (OpenSpec.upto fragLeastSpec)

/-- 'pitotlaw08.FragSmall', WHERE WHAT IT READS IS OF BULK AT MOST 1048576: true; the input reads as it did. -/
def fragSmallUptoRow : OpenClaim := { program := "ytjpbpfihacfndaa", sum := "251af533236f9c92a53dc5c36063d3fafa7336599419a45af4291207534aa8f0", func := "pitot/pitotlaw08.FragSmall", spec := "fragSmall", inPlace := ["internal/abi.NoEscape"], unfollowed := true, recurses := true, plainKeys := false, apart := false, narrowed := true }
def FragSmallUptoSaid : Prop := fragSmallUptoRow.holds Try.pinned (OpenSpec.upto fragSmallSpec)

/-- 'pitotlaw09.ReasmPlays', WHERE WHAT IT READS IS OF BULK AT MOST 1048576: true; the input reads as it did. -/
def reasmPlaysUptoRow : OpenClaim := { program := "ytjpbpfihacfndaa", sum := "251af533236f9c92a53dc5c36063d3fafa7336599419a45af4291207534aa8f0", func := "pitot/pitotlaw09.ReasmPlays", spec := "reasmPlays", unfollowed := true, recurses := true, plainKeys := false, apart := false, narrowed := true }
def ReasmPlaysUptoSaid : Prop := reasmPlaysUptoRow.holds Try.pinned (OpenSpec.upto reasmPlaysSpec)

/-- 'pitotlaw09.ReasmWaits', WHERE WHAT IT READS IS OF BULK AT MOST 1048576: true; the input reads as it did. -/
def reasmWaitsUptoRow : OpenClaim := { program := "ytjpbpfihacfndaa", sum := "251af533236f9c92a53dc5c36063d3fafa7336599419a45af4291207534aa8f0", func := "pitot/pitotlaw09.ReasmWaits", spec := "reasmWaits", unfollowed := true, recurses := true, plainKeys := false, apart := false, narrowed := true }
def ReasmWaitsUptoSaid : Prop := reasmWaitsUptoRow.holds Try.pinned (OpenSpec.upto reasmWaitsSpec)

/-- 'pitotlaw09.ReasmNil', WHERE WHAT IT READS IS OF BULK AT MOST 1048576: true; the input reads as it did. -/
def reasmNilUptoRow : OpenClaim := { program := "ytjpbpfihacfndaa", sum := "251af533236f9c92a53dc5c36063d3fafa7336599419a45af4291207534aa8f0", func := "pitot/pitotlaw09.ReasmNil", spec := "reasmNil", unfollowed := true, recurses := true, plainKeys := false, apart := false, narrowed := true }
def ReasmNilUptoSaid : Prop := reasmNilUptoRow.holds Try.pinned (OpenSpec.upto reasmNilSpec)

/-- 'pitotlaw09.ReasmAlone', WHERE WHAT IT READS IS OF BULK AT MOST 1048576: true; the input reads as it did. -/
def reasmAloneUptoRow : OpenClaim := { program := "ytjpbpfihacfndaa", sum := "251af533236f9c92a53dc5c36063d3fafa7336599419a45af4291207534aa8f0", func := "pitot/pitotlaw09.ReasmAlone", spec := "reasmAlone", unfollowed := true, recurses := true, plainKeys := false, apart := false, narrowed := true }
def ReasmAloneUptoSaid : Prop := reasmAloneUptoRow.holds Try.pinned (OpenSpec.upto reasmAloneSpec)

/-- 'pitotlaw09.ReasmWhole', WHERE WHAT IT READS IS OF BULK AT MOST 1048576: true; the input reads as it did. -/
def reasmWholeUptoRow : OpenClaim := { program := "ytjpbpfihacfndaa", sum := "251af533236f9c92a53dc5c36063d3fafa7336599419a45af4291207534aa8f0", func := "pitot/pitotlaw09.ReasmWhole", spec := "reasmWhole", unfollowed := true, recurses := true, plainKeys := false, apart := false, narrowed := true }
def ReasmWholeUptoSaid : Prop := reasmWholeUptoRow.holds Try.pinned (OpenSpec.upto reasmWholeSpec)

/-- 'pitotlaw09.ReasmOnly', WHERE WHAT IT READS IS OF BULK AT MOST 1048576: true; the input reads as it did. -/
def reasmOnlyUptoRow : OpenClaim := { program := "ytjpbpfihacfndaa", sum := "251af533236f9c92a53dc5c36063d3fafa7336599419a45af4291207534aa8f0", func := "pitot/pitotlaw09.ReasmOnly", spec := "reasmOnly", inPlace := ["internal/abi.NoEscape"], unfollowed := true, recurses := true, plainKeys := false, apart := false, narrowed := true }
def ReasmOnlyUptoSaid : Prop := reasmOnlyUptoRow.holds Try.pinned (OpenSpec.upto reasmOnlySpec)

/-- 'pitotlaw08.FragBack', WHERE WHAT IT READS IS OF BULK AT MOST 1048576: true; the input reads as it did. -/
def fragBackUptoRow : OpenClaim := { program := "ytjpbpfihacfndaa", sum := "251af533236f9c92a53dc5c36063d3fafa7336599419a45af4291207534aa8f0", func := "pitot/pitotlaw08.FragBack", spec := "fragBack", inPlace := ["internal/abi.NoEscape"], unfollowed := true, recurses := true, plainKeys := false, apart := false, narrowed := true }
def FragBackUptoSaid : Prop := fragBackUptoRow.holds Try.pinned (OpenSpec.upto fragBackSpec)

end Rows
end Go.Proofs.Ytjpbpfihacfndaa
