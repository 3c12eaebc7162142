/-
  No cell of these rows narrows 'for every input' (looked for: loops, veiled, ifaces, maps, wideKeys, modest, calm, conditions, laid).
  DERIVED. THE GIVEN ROWS OF THIS SEAT. 10 by the template 'for every input the law returns true; each argument reads behind the call as it read before'; 0 by the template 'total and deterministic' (their statements: YtoipgandilhdeaaTotals.lean).
  GIVEN WITH THE SEED: the statements are not yours to turn. If you find one false, say at which input.
  Laid BY PROGRAM, IN A SANDBOX (cutbox-rows.mjs): the forced cells as the released guide's own fill.sh prints them over the translation 4d2dd71b6111b6f0… (all of the seat's roots in one cut). By AI agents, Wed Nov 11 2026. No macro, syntax, notation, axiom, sorry.
-/
import Derived.Test.YtoipgandilhdeaaChecked
import GoSem.Claim
import GoSem.ClaimJoined
import GoSem.ClaimMapViews
import Derived.JoinedTies
import Derived.KernelRfl
namespace Go.Proofs.Ytoipgandilhdeaa
/- THE CELL 'sum', in the pinned program and in every row, IS THE sha256 OF THE DUMP (.gsa) THAT YtoipgandilhdeaaProg.lean LOADS. Nothing in Lean hashes anything: it is a label: what it is worth is what the hold of that sum in a sandbox is worth. -/
noncomputable def Try.pinned : Pinned := { name := "ytoipgandilhdeaa", sum := "4d2dd71b6111b6f0ce047b1948b29fe7d11bc5ac8144ed5745e5c2b802cd1f9d", checked := Try.checked }
namespace Rows
def none {H : Type} : Left H := { results := [], args := [] }

/-- 'sandglasslaw22.AnswerWrites': WHATEVER THE INPUT: true; the input reads as it did. -/
def answerWritesSpec : ChangeSpec := { name := "answerWrites", fn := fun _ => fun
  | [d] => { results := [.lit (.bool true)], args := [d] }
  | _ => none }
def answerWritesRow : OpenClaim := { program := "ytoipgandilhdeaa", sum := "4d2dd71b6111b6f0ce047b1948b29fe7d11bc5ac8144ed5745e5c2b802cd1f9d", func := "sandglass/sandglasslaw22.AnswerWrites", spec := "answerWrites", inPlace := ["internal/abi.NoEscape"], apart := false }
def AnswerWritesSaid : Prop := answerWritesRow.holds Try.pinned (OpenSpec.ofChange answerWritesSpec)

/-- ITS FALSE NEIGHBOUR: 'it returns false'. Refute it at one input. -/
def answerWritesWrong : ChangeSpec := { name := "answerWrites", fn := fun _ => fun
  | [d] => { results := [.lit (.bool false)], args := [d] }
  | _ => none }
def AnswerWritesWrongFalsely : Prop := answerWritesRow.holds Try.pinned (OpenSpec.ofChange answerWritesWrong)

/-- 'sandglasslaw22.AnswerReads': WHATEVER THE INPUT: true; the input reads as it did. -/
def answerReadsSpec : ChangeSpec := { name := "answerReads", fn := fun _ => fun
  | [d] => { results := [.lit (.bool true)], args := [d] }
  | _ => none }
def answerReadsRow : OpenClaim := { program := "ytoipgandilhdeaa", sum := "4d2dd71b6111b6f0ce047b1948b29fe7d11bc5ac8144ed5745e5c2b802cd1f9d", func := "sandglass/sandglasslaw22.AnswerReads", spec := "answerReads", inPlace := ["internal/abi.NoEscape"], apart := false }
def AnswerReadsSaid : Prop := answerReadsRow.holds Try.pinned (OpenSpec.ofChange answerReadsSpec)

/-- ITS FALSE NEIGHBOUR: 'it returns false'. Refute it at one input. -/
def answerReadsWrong : ChangeSpec := { name := "answerReads", fn := fun _ => fun
  | [d] => { results := [.lit (.bool false)], args := [d] }
  | _ => none }
def AnswerReadsWrongFalsely : Prop := answerReadsRow.holds Try.pinned (OpenSpec.ofChange answerReadsWrong)

/-- 'sandglasslaw22.AnswerBack': WHATEVER THE INPUT: true; the input reads as it did. -/
def answerBackSpec : ChangeSpec := { name := "answerBack", fn := fun _ => fun
  | [d1, d2, d3] => { results := [.lit (.bool true)], args := [d1, d2, d3] }
  | _ => none }
def answerBackRow : OpenClaim := { program := "ytoipgandilhdeaa", sum := "4d2dd71b6111b6f0ce047b1948b29fe7d11bc5ac8144ed5745e5c2b802cd1f9d", func := "sandglass/sandglasslaw22.AnswerBack", spec := "answerBack", inPlace := ["internal/abi.NoEscape"], apart := false }
def AnswerBackSaid : Prop := answerBackRow.holds Try.pinned (OpenSpec.ofChange answerBackSpec)

/-- ITS FALSE NEIGHBOUR: 'it returns false'. Refute it at one input. -/
def answerBackWrong : ChangeSpec := { name := "answerBack", fn := fun _ => fun
  | [d1, d2, d3] => { results := [.lit (.bool false)], args := [d1, d2, d3] }
  | _ => none }
def AnswerBackWrongFalsely : Prop := answerBackRow.holds Try.pinned (OpenSpec.ofChange answerBackWrong)

/-- 'sandglasslaw22.AnswerApart': WHATEVER THE INPUT: true; the input reads as it did. -/
def answerApartSpec : ChangeSpec := { name := "answerApart", fn := fun _ => fun
  | [d1, d2] => { results := [.lit (.bool true)], args := [d1, d2] }
  | _ => none }
def answerApartRow : OpenClaim := { program := "ytoipgandilhdeaa", sum := "4d2dd71b6111b6f0ce047b1948b29fe7d11bc5ac8144ed5745e5c2b802cd1f9d", func := "sandglass/sandglasslaw22.AnswerApart", spec := "answerApart", inPlace := ["internal/abi.NoEscape"], apart := false }
def AnswerApartSaid : Prop := answerApartRow.holds Try.pinned (OpenSpec.ofChange answerApartSpec)

/-- ITS FALSE NEIGHBOUR: 'it returns false'. Refute it at one input. -/
def answerApartWrong : ChangeSpec := { name := "answerApart", fn := fun _ => fun
  | [d1, d2] => { results := [.lit (.bool false)], args := [d1, d2] }
  | _ => none }
def AnswerApartWrongFalsely : Prop := answerApartRow.holds Try.pinned (OpenSpec.ofChange answerApartWrong)

/-- 'sandglasslaw22.AnswerLength': WHATEVER THE INPUT: true; the input reads as it did. -/
def answerLengthSpec : ChangeSpec := { name := "answerLength", fn := fun _ => fun
  | [d] => { results := [.lit (.bool true)], args := [d] }
  | _ => none }
def answerLengthRow : OpenClaim := { program := "ytoipgandilhdeaa", sum := "4d2dd71b6111b6f0ce047b1948b29fe7d11bc5ac8144ed5745e5c2b802cd1f9d", func := "sandglass/sandglasslaw22.AnswerLength", spec := "answerLength", inPlace := ["internal/abi.NoEscape"], apart := false }
def AnswerLengthSaid : Prop := answerLengthRow.holds Try.pinned (OpenSpec.ofChange answerLengthSpec)

/-- ITS FALSE NEIGHBOUR: 'it returns false'. Refute it at one input. -/
def answerLengthWrong : ChangeSpec := { name := "answerLength", fn := fun _ => fun
  | [d] => { results := [.lit (.bool false)], args := [d] }
  | _ => none }
def AnswerLengthWrongFalsely : Prop := answerLengthRow.holds Try.pinned (OpenSpec.ofChange answerLengthWrong)

/-- 'sandglasslaw21.WireWrites': WHATEVER THE INPUT: true; the input reads as it did. -/
def wireWritesSpec : ChangeSpec := { name := "wireWrites", fn := fun _ => fun
  | [d] => { results := [.lit (.bool true)], args := [d] }
  | _ => none }
def wireWritesRow : OpenClaim := { program := "ytoipgandilhdeaa", sum := "4d2dd71b6111b6f0ce047b1948b29fe7d11bc5ac8144ed5745e5c2b802cd1f9d", func := "sandglass/sandglasslaw21.WireWrites", spec := "wireWrites", inPlace := ["internal/abi.NoEscape"], unfollowed := true, recurses := true, apart := false }
def WireWritesSaid : Prop := wireWritesRow.holds Try.pinned (OpenSpec.ofChange wireWritesSpec)

/-- ITS FALSE NEIGHBOUR: 'it returns false'. Refute it at one input. -/
def wireWritesWrong : ChangeSpec := { name := "wireWrites", fn := fun _ => fun
  | [d] => { results := [.lit (.bool false)], args := [d] }
  | _ => none }
def WireWritesWrongFalsely : Prop := wireWritesRow.holds Try.pinned (OpenSpec.ofChange wireWritesWrong)

/-- 'sandglasslaw21.WireReads': WHATEVER THE INPUT: true; the input reads as it did. -/
def wireReadsSpec : ChangeSpec := { name := "wireReads", fn := fun _ => fun
  | [d] => { results := [.lit (.bool true)], args := [d] }
  | _ => none }
def wireReadsRow : OpenClaim := { program := "ytoipgandilhdeaa", sum := "4d2dd71b6111b6f0ce047b1948b29fe7d11bc5ac8144ed5745e5c2b802cd1f9d", func := "sandglass/sandglasslaw21.WireReads", spec := "wireReads", inPlace := ["internal/abi.NoEscape"], unfollowed := true, recurses := true, apart := false }
def WireReadsSaid : Prop := wireReadsRow.holds Try.pinned (OpenSpec.ofChange wireReadsSpec)

/-- ITS FALSE NEIGHBOUR: 'it returns false'. Refute it at one input. -/
def wireReadsWrong : ChangeSpec := { name := "wireReads", fn := fun _ => fun
  | [d] => { results := [.lit (.bool false)], args := [d] }
  | _ => none }
def WireReadsWrongFalsely : Prop := wireReadsRow.holds Try.pinned (OpenSpec.ofChange wireReadsWrong)

/-- 'sandglasslaw21.WireBack': WHATEVER THE INPUT: true; the input reads as it did. -/
def wireBackSpec : ChangeSpec := { name := "wireBack", fn := fun _ => fun
  | [d1, d2] => { results := [.lit (.bool true)], args := [d1, d2] }
  | _ => none }
def wireBackRow : OpenClaim := { program := "ytoipgandilhdeaa", sum := "4d2dd71b6111b6f0ce047b1948b29fe7d11bc5ac8144ed5745e5c2b802cd1f9d", func := "sandglass/sandglasslaw21.WireBack", spec := "wireBack", inPlace := ["internal/abi.NoEscape"], unfollowed := true, recurses := true, apart := false }
def WireBackSaid : Prop := wireBackRow.holds Try.pinned (OpenSpec.ofChange wireBackSpec)

/-- ITS FALSE NEIGHBOUR: 'it returns false'. Refute it at one input. -/
def wireBackWrong : ChangeSpec := { name := "wireBack", fn := fun _ => fun
  | [d1, d2] => { results := [.lit (.bool false)], args := [d1, d2] }
  | _ => none }
def WireBackWrongFalsely : Prop := wireBackRow.holds Try.pinned (OpenSpec.ofChange wireBackWrong)

/-- 'sandglasslaw21.WireCuts': WHATEVER THE INPUT: true; the input reads as it did. -/
def wireCutsSpec : ChangeSpec := { name := "wireCuts", fn := fun _ => fun
  | [d1, d2, d3] => { results := [.lit (.bool true)], args := [d1, d2, d3] }
  | _ => none }
def wireCutsRow : OpenClaim := { program := "ytoipgandilhdeaa", sum := "4d2dd71b6111b6f0ce047b1948b29fe7d11bc5ac8144ed5745e5c2b802cd1f9d", func := "sandglass/sandglasslaw21.WireCuts", spec := "wireCuts", inPlace := ["internal/abi.NoEscape"], unfollowed := true, recurses := true, apart := false }
def WireCutsSaid : Prop := wireCutsRow.holds Try.pinned (OpenSpec.ofChange wireCutsSpec)

/-- ITS FALSE NEIGHBOUR: 'it returns false'. Refute it at one input. -/
def wireCutsWrong : ChangeSpec := { name := "wireCuts", fn := fun _ => fun
  | [d1, d2, d3] => { results := [.lit (.bool false)], args := [d1, d2, d3] }
  | _ => none }
def WireCutsWrongFalsely : Prop := wireCutsRow.holds Try.pinned (OpenSpec.ofChange wireCutsWrong)

/-- 'sandglasslaw21.WireApart': WHATEVER THE INPUT: true; the input reads as it did. -/
def wireApartSpec : ChangeSpec := { name := "wireApart", fn := fun _ => fun
  | [d1, d2] => { results := [.lit (.bool true)], args := [d1, d2] }
  | _ => none }
def wireApartRow : OpenClaim := { program := "ytoipgandilhdeaa", sum := "4d2dd71b6111b6f0ce047b1948b29fe7d11bc5ac8144ed5745e5c2b802cd1f9d", func := "sandglass/sandglasslaw21.WireApart", spec := "wireApart", inPlace := ["internal/abi.NoEscape"], unfollowed := true, recurses := true, apart := false }
def WireApartSaid : Prop := wireApartRow.holds Try.pinned (OpenSpec.ofChange wireApartSpec)

/-- ITS FALSE NEIGHBOUR: 'it returns false'. Refute it at one input. -/
def wireApartWrong : ChangeSpec := { name := "wireApart", fn := fun _ => fun
  | [d1, d2] => { results := [.lit (.bool false)], args := [d1, d2] }
  | _ => none }
def WireApartWrongFalsely : Prop := wireApartRow.holds Try.pinned (OpenSpec.ofChange wireApartWrong)

/- THE SECOND FORM. 'bulk': how many values and letters a reading holds, each counted each time it is reached (what is shared counts as often as it is met; a slice's spare places count too). A statement '..UptoSaid' is the law's where the arguments, and the package variables that the reading takes, are together of bulk at most 1048576: NARROWER than '..Said'. Prove '..Said' where nothing that the law and all that it calls make is longer than what came in: it says more and counts as full. Else prove '..UptoSaid'. A law counts once. -/
mutual
def uptoBulk {H : Type} : DataW H → Nat
  | .lit (.string bytes) => bytes.length + 1
  | .lit _ => 1
  | .nil => 1
  | .ptr d => uptoBulk d + 1
  | .slice elems spare => uptoBulkAll elems + uptoBulkAll spare + 1
  | .agg parts => uptoBulkAll parts + 1
  | .iface _ d => uptoBulk d + 1
  | .map entries => uptoBulkEntries entries + 1
  | .held _ => 1
def uptoBulkAll {H : Type} : List (DataW H) → Nat
  | [] => 0
  | d :: r => uptoBulk d + uptoBulkAll r
def uptoBulkEntries {H : Type} : List (Lit × DataW H) → Nat
  | [] => 0
  | x :: r => uptoBulkEntry x + uptoBulkEntries r
def uptoBulkEntry {H : Type} : Lit × DataW H → Nat
  | (.string bytes, d) => bytes.length + uptoBulk d + 1
  | (_, d) => uptoBulk d + 1
 end
def uptoSmall : (H : Type) → List (DataW H) → Bool := fun _ ds => decide (uptoBulkAll ds ≤ 1048576)
def OpenSpec.upto (s : _root_.Go.ChangeSpec) : _root_.Go.OpenSpec := { _root_.Go.OpenSpec.ofChange s with cond := some uptoSmall }

/-- 'sandglasslaw22.AnswerWrites', WHERE WHAT IT READS IS OF BULK AT MOST 1048576: true; the input reads as it did. -/
def answerWritesUptoRow : OpenClaim := { program := "ytoipgandilhdeaa", sum := "4d2dd71b6111b6f0ce047b1948b29fe7d11bc5ac8144ed5745e5c2b802cd1f9d", func := "sandglass/sandglasslaw22.AnswerWrites", spec := "answerWrites", inPlace := ["internal/abi.NoEscape"], apart := false, narrowed := true }
def AnswerWritesUptoSaid : Prop := answerWritesUptoRow.holds Try.pinned (OpenSpec.upto answerWritesSpec)

/-- 'sandglasslaw22.AnswerReads', WHERE WHAT IT READS IS OF BULK AT MOST 1048576: true; the input reads as it did. -/
def answerReadsUptoRow : OpenClaim := { program := "ytoipgandilhdeaa", sum := "4d2dd71b6111b6f0ce047b1948b29fe7d11bc5ac8144ed5745e5c2b802cd1f9d", func := "sandglass/sandglasslaw22.AnswerReads", spec := "answerReads", inPlace := ["internal/abi.NoEscape"], apart := false, narrowed := true }
def AnswerReadsUptoSaid : Prop := answerReadsUptoRow.holds Try.pinned (OpenSpec.upto answerReadsSpec)

/-- 'sandglasslaw22.AnswerBack', WHERE WHAT IT READS IS OF BULK AT MOST 1048576: true; the input reads as it did. -/
def answerBackUptoRow : OpenClaim := { program := "ytoipgandilhdeaa", sum := "4d2dd71b6111b6f0ce047b1948b29fe7d11bc5ac8144ed5745e5c2b802cd1f9d", func := "sandglass/sandglasslaw22.AnswerBack", spec := "answerBack", inPlace := ["internal/abi.NoEscape"], apart := false, narrowed := true }
def AnswerBackUptoSaid : Prop := answerBackUptoRow.holds Try.pinned (OpenSpec.upto answerBackSpec)

/-- 'sandglasslaw22.AnswerApart', WHERE WHAT IT READS IS OF BULK AT MOST 1048576: true; the input reads as it did. -/
def answerApartUptoRow : OpenClaim := { program := "ytoipgandilhdeaa", sum := "4d2dd71b6111b6f0ce047b1948b29fe7d11bc5ac8144ed5745e5c2b802cd1f9d", func := "sandglass/sandglasslaw22.AnswerApart", spec := "answerApart", inPlace := ["internal/abi.NoEscape"], apart := false, narrowed := true }
def AnswerApartUptoSaid : Prop := answerApartUptoRow.holds Try.pinned (OpenSpec.upto answerApartSpec)

/-- 'sandglasslaw22.AnswerLength', WHERE WHAT IT READS IS OF BULK AT MOST 1048576: true; the input reads as it did. -/
def answerLengthUptoRow : OpenClaim := { program := "ytoipgandilhdeaa", sum := "4d2dd71b6111b6f0ce047b1948b29fe7d11bc5ac8144ed5745e5c2b802cd1f9d", func := "sandglass/sandglasslaw22.AnswerLength", spec := "answerLength", inPlace := ["internal/abi.NoEscape"], apart := false, narrowed := true }
def AnswerLengthUptoSaid : Prop := answerLengthUptoRow.holds Try.pinned (OpenSpec.upto answerLengthSpec)

/-- 'sandglasslaw21.WireWrites', WHERE WHAT IT READS IS OF BULK AT MOST 1048576: true; the input reads as it did. -/
def wireWritesUptoRow : OpenClaim := { program := "ytoipgandilhdeaa", sum := "4d2dd71b6111b6f0ce047b1948b29fe7d11bc5ac8144ed5745e5c2b802cd1f9d", func := "sandglass/sandglasslaw21.WireWrites", spec := "wireWrites", inPlace := ["internal/abi.NoEscape"], unfollowed := true, recurses := true, apart := false, narrowed := true }
def WireWritesUptoSaid : Prop := wireWritesUptoRow.holds Try.pinned (OpenSpec.upto wireWritesSpec)

/-- 'sandglasslaw21.WireReads', WHERE WHAT IT READS IS OF BULK AT MOST 1048576: true; the input reads as it did. -/
def wireReadsUptoRow : OpenClaim := { program := "ytoipgandilhdeaa", sum := "4d2dd71b6111b6f0ce047b1948b29fe7d11bc5ac8144ed5745e5c2b802cd1f9d", func := "sandglass/sandglasslaw21.WireReads", spec := "wireReads", inPlace := ["internal/abi.NoEscape"], unfollowed := true, recurses := true, apart := false, narrowed := true }
def WireReadsUptoSaid : Prop := wireReadsUptoRow.holds Try.pinned (OpenSpec.upto wireReadsSpec)

/-- 'sandglasslaw21.WireBack', WHERE WHAT IT READS IS OF BULK AT MOST 1048576: true; the input reads as it did. -/
def wireBackUptoRow : OpenClaim := { program := "ytoipgandilhdeaa", sum := "4d2dd71b6111b6f0ce047b1948b29fe7d11bc5ac8144ed5745e5c2b802cd1f9d", func := "sandglass/sandglasslaw21.WireBack", spec := "wireBack", inPlace := ["internal/abi.NoEscape"], unfollowed := true, recurses := true, apart := false, narrowed := true }
def WireBackUptoSaid : Prop := wireBackUptoRow.holds Try.pinned (OpenSpec.upto wireBackSpec)

/-- 'sandglasslaw21.WireCuts', WHERE WHAT IT READS IS OF BULK AT MOST 1048576: true; the input reads as it did. -/
def wireCutsUptoRow : OpenClaim := { program := "ytoipgandilhdeaa", sum := "4d2dd71b6111b6f0ce047b1948b29fe7d11bc5ac8144ed5745e5c2b802cd1f9d", func := "sandglass/sandglasslaw21.WireCuts", spec := "wireCuts", inPlace := ["internal/abi.NoEscape"], unfollowed := true, recurses := true, apart := false, narrowed := true }
def WireCutsUptoSaid : Prop := wireCutsUptoRow.holds Try.pinned (OpenSpec.upto wireCutsSpec)

/-- 'sandglasslaw21.WireApart', WHERE WHAT IT READS IS OF BULK AT MOST 1048576: true; the input reads as it did. -/
def wireApartUptoRow : OpenClaim := { program := "ytoipgandilhdeaa", sum := "4d2dd71b6111b6f0ce047b1948b29fe7d11bc5ac8144ed5745e5c2b802cd1f9d", func := "sandglass/sandglasslaw21.WireApart", spec := "wireApart", inPlace := ["internal/abi.NoEscape"], unfollowed := true, recurses := true, apart := false, narrowed := true }
def WireApartUptoSaid : Prop := wireApartUptoRow.holds Try.pinned (OpenSpec.upto wireApartSpec)

end Rows
end Go.Proofs.Ytoipgandilhdeaa
