/-
  No cell of these rows narrows 'for every input' (looked for: loops, veiled, ifaces, maps, wideKeys, modest, calm, conditions, laid).
  DERIVED. THE GIVEN ROWS OF THIS SEAT. 6 by the template 'for every input the law returns true; each argument reads behind the call as it read before'; 0 by the template 'total and deterministic' (their statements: YtadmgicmmnbdcaaTotals.lean).
  GIVEN WITH THE SEED: the statements are not yours to turn. If you find one false, say at which input.
  Laid BY PROGRAM, IN A SANDBOX (cutbox-rows.mjs): the forced cells as the released guide's own fill.sh prints them over the translation 8344ad6fc7767161… (all of the seat's roots in one cut). By AI agents, Wed Nov 11 2026. No macro, syntax, notation, axiom, sorry.
-/
import Derived.Test.YtadmgicmmnbdcaaChecked
import GoSem.Claim
import GoSem.ClaimJoined
import GoSem.ClaimMapViews
import Derived.JoinedTies
import Derived.KernelRfl
namespace Go.Proofs.Ytadmgicmmnbdcaa
/- THE CELL 'sum', in the pinned program and in every row, IS THE sha256 OF THE DUMP (.gsa) THAT YtadmgicmmnbdcaaProg.lean LOADS. Nothing in Lean hashes anything: it is a label: what it is worth is what the hold of that sum in a sandbox is worth. -/
noncomputable def Try.pinned : Pinned := { name := "ytadmgicmmnbdcaa", sum := "8344ad6fc776716128d8ff49b8854d8a5cc991a66d979305205ea70d35c57681", checked := Try.checked }
namespace Rows
def none {H : Type} : Left H := { results := [], args := [] }

/-- 'sandglasslaw04.SlabScripts': WHATEVER THE INPUT: true; the input reads as it did. -/
def slabScriptsSpec : ChangeSpec := { name := "slabScripts", fn := fun _ => fun
  | [d1, d2, d3] => { results := [.lit (.bool true)], args := [d1, d2, d3] }
  | _ => none }
def slabScriptsRow : OpenClaim := { program := "ytadmgicmmnbdcaa", sum := "8344ad6fc776716128d8ff49b8854d8a5cc991a66d979305205ea70d35c57681", func := "sandglass/sandglasslaw04.SlabScripts", spec := "slabScripts", unfollowed := true, recurses := true, apart := false }
def SlabScriptsSaid : Prop := slabScriptsRow.holds Try.pinned (OpenSpec.ofChange slabScriptsSpec)

/-- ITS FALSE NEIGHBOUR: 'it returns false'. Refute it at one input. -/
def slabScriptsWrong : ChangeSpec := { name := "slabScripts", fn := fun _ => fun
  | [d1, d2, d3] => { results := [.lit (.bool false)], args := [d1, d2, d3] }
  | _ => none }
def SlabScriptsWrongFalsely : Prop := slabScriptsRow.holds Try.pinned (OpenSpec.ofChange slabScriptsWrong)

/-- 'sandglasslaw04.SlabGood': WHATEVER THE INPUT: true; the input reads as it did. -/
def slabGoodSpec : ChangeSpec := { name := "slabGood", fn := fun _ => fun
  | [d1, d2, d3] => { results := [.lit (.bool true)], args := [d1, d2, d3] }
  | _ => none }
def slabGoodRow : OpenClaim := { program := "ytadmgicmmnbdcaa", sum := "8344ad6fc776716128d8ff49b8854d8a5cc991a66d979305205ea70d35c57681", func := "sandglass/sandglasslaw04.SlabGood", spec := "slabGood", unfollowed := true, recurses := true, apart := false }
def SlabGoodSaid : Prop := slabGoodRow.holds Try.pinned (OpenSpec.ofChange slabGoodSpec)

/-- ITS FALSE NEIGHBOUR: 'it returns false'. Refute it at one input. -/
def slabGoodWrong : ChangeSpec := { name := "slabGood", fn := fun _ => fun
  | [d1, d2, d3] => { results := [.lit (.bool false)], args := [d1, d2, d3] }
  | _ => none }
def SlabGoodWrongFalsely : Prop := slabGoodRow.holds Try.pinned (OpenSpec.ofChange slabGoodWrong)

/-- 'sandglasslaw04.SlabOwn': WHATEVER THE INPUT: true; the input reads as it did. -/
def slabOwnSpec : ChangeSpec := { name := "slabOwn", fn := fun _ => fun
  | [d1, d2, d3] => { results := [.lit (.bool true)], args := [d1, d2, d3] }
  | _ => none }
def slabOwnRow : OpenClaim := { program := "ytadmgicmmnbdcaa", sum := "8344ad6fc776716128d8ff49b8854d8a5cc991a66d979305205ea70d35c57681", func := "sandglass/sandglasslaw04.SlabOwn", spec := "slabOwn", unfollowed := true, recurses := true, apart := false }
def SlabOwnSaid : Prop := slabOwnRow.holds Try.pinned (OpenSpec.ofChange slabOwnSpec)

/-- ITS FALSE NEIGHBOUR: 'it returns false'. Refute it at one input. -/
def slabOwnWrong : ChangeSpec := { name := "slabOwn", fn := fun _ => fun
  | [d1, d2, d3] => { results := [.lit (.bool false)], args := [d1, d2, d3] }
  | _ => none }
def SlabOwnWrongFalsely : Prop := slabOwnRow.holds Try.pinned (OpenSpec.ofChange slabOwnWrong)

/-- 'sandglasslaw04.SlabAll': WHATEVER THE INPUT: true; the input reads as it did. -/
def slabAllSpec : ChangeSpec := { name := "slabAll", fn := fun _ => fun
  | [d1, d2] => { results := [.lit (.bool true)], args := [d1, d2] }
  | _ => none }
def slabAllRow : OpenClaim := { program := "ytadmgicmmnbdcaa", sum := "8344ad6fc776716128d8ff49b8854d8a5cc991a66d979305205ea70d35c57681", func := "sandglass/sandglasslaw04.SlabAll", spec := "slabAll", unfollowed := true, recurses := true, apart := false }
def SlabAllSaid : Prop := slabAllRow.holds Try.pinned (OpenSpec.ofChange slabAllSpec)

/-- ITS FALSE NEIGHBOUR: 'it returns false'. Refute it at one input. -/
def slabAllWrong : ChangeSpec := { name := "slabAll", fn := fun _ => fun
  | [d1, d2] => { results := [.lit (.bool false)], args := [d1, d2] }
  | _ => none }
def SlabAllWrongFalsely : Prop := slabAllRow.holds Try.pinned (OpenSpec.ofChange slabAllWrong)

/-- 'sandglasslaw04.SlabNil': WHATEVER THE INPUT: true; the input reads as it did. -/
def slabNilSpec : ChangeSpec := { name := "slabNil", fn := fun _ => fun
  | [d1, d2] => { results := [.lit (.bool true)], args := [d1, d2] }
  | _ => none }
def slabNilRow : OpenClaim := { program := "ytadmgicmmnbdcaa", sum := "8344ad6fc776716128d8ff49b8854d8a5cc991a66d979305205ea70d35c57681", func := "sandglass/sandglasslaw04.SlabNil", spec := "slabNil", unfollowed := true, recurses := true, apart := false }
def SlabNilSaid : Prop := slabNilRow.holds Try.pinned (OpenSpec.ofChange slabNilSpec)

/-- ITS FALSE NEIGHBOUR: 'it returns false'. Refute it at one input. -/
def slabNilWrong : ChangeSpec := { name := "slabNil", fn := fun _ => fun
  | [d1, d2] => { results := [.lit (.bool false)], args := [d1, d2] }
  | _ => none }
def SlabNilWrongFalsely : Prop := slabNilRow.holds Try.pinned (OpenSpec.ofChange slabNilWrong)

/-- 'sandglasslaw04.SlabRow': WHATEVER THE INPUT: true; the input reads as it did. -/
def slabRowSpec : ChangeSpec := { name := "slabRow", fn := fun _ => fun
  | [d1, d2, d3] => { results := [.lit (.bool true)], args := [d1, d2, d3] }
  | _ => none }
def slabRowRow : OpenClaim := { program := "ytadmgicmmnbdcaa", sum := "8344ad6fc776716128d8ff49b8854d8a5cc991a66d979305205ea70d35c57681", func := "sandglass/sandglasslaw04.SlabRow", spec := "slabRow", unfollowed := true, recurses := true, apart := false }
def SlabRowSaid : Prop := slabRowRow.holds Try.pinned (OpenSpec.ofChange slabRowSpec)

/-- ITS FALSE NEIGHBOUR: 'it returns false'. Refute it at one input. -/
def slabRowWrong : ChangeSpec := { name := "slabRow", fn := fun _ => fun
  | [d1, d2, d3] => { results := [.lit (.bool false)], args := [d1, d2, d3] }
  | _ => none }
def SlabRowWrongFalsely : Prop := slabRowRow.holds Try.pinned (OpenSpec.ofChange slabRowWrong)

/- THE SECOND FORM. 'bulk': how many values and letters a reading holds, each counted each time it is reached (what is shared counts as often as it is met; a slice's spare places count too). A statement '..UptoSaid' is the law's where the arguments, and the package variables that the reading takes, are together of bulk at most 1048576: NARROWER than '..Said'. Prove '..Said' where nothing that the law and all that it calls make is longer than what came in: it says more and counts as full. Else prove '..UptoSaid'. A law counts once. -/
mutual
def uptoBulk {H : Type} : DataW H → Nat
  | .lit (.string bytes) => bytes.length + 1
  | .lit _ => 1
  | .nil => 1
  | .ptr d => uptoBulk d + 1
  | .slice elems spare => uptoBulkAll elems + uptoBulkAll spare + 1
  | .agg parts => uptoBulkAll parts + 1
  | .iface _ d => uptoBulk d + 1
  | .map entries => uptoBulkEntries entries + 1
  | .held _ => 1
def uptoBulkAll {H : Type} : List (DataW H) → Nat
  | [] => 0
  | d :: r => uptoBulk d + uptoBulkAll r
def uptoBulkEntries {H : Type} : List (Lit × DataW H) → Nat
  | [] => 0
  | x :: r => uptoBulkEntry x + uptoBulkEntries r
def uptoBulkEntry {H : Type} : Lit × DataW H → Nat
  | (.string bytes, d) => bytes.length + uptoBulk d + 1
  | (_, d) => uptoBulk d + 1
 end
def uptoSmall : (H : Type) → List (DataW H) → Bool := fun _ ds => decide (uptoBulkAll ds ≤ 1048576)
def OpenSpec.upto (s : _root_.Go.ChangeSpec) : _root_.Go.OpenSpec := { _root_.Go.OpenSpec.ofChange s with cond := some uptoSmall }

/-- 'sandglasslaw04.SlabScripts', WHERE WHAT IT READS IS OF BULK AT MOST 1048576: true; the input reads as it did. -/
def slabScriptsUptoRow : OpenClaim := { program := "ytadmgicmmnbdcaa", sum := "8344ad6fc776716128d8ff49b8854d8a5cc991a66d979305205ea70d35c57681", func := "sandglass/sandglasslaw04.SlabScripts", spec := "slabScripts", unfollowed := true, recurses := true, apart := false, narrowed := true }
def SlabScriptsUptoSaid : Prop := slabScriptsUptoRow.holds Try.pinned (OpenSpec.upto slabScriptsSpec)

/-- 'sandglasslaw04.SlabGood', WHERE WHAT IT READS IS OF BULK AT MOST 1048576: true; the input reads as it did. -/
def slabGoodUptoRow : OpenClaim := { program := "ytadmgicmmnbdcaa", sum := "8344ad6fc776716128d8ff49b8854d8a5cc991a66d979305205ea70d35c57681", func := "sandglass/sandglasslaw04.SlabGood", spec := "slabGood", unfollowed := true, recurses := true, apart := false, narrowed := true }
def SlabGoodUptoSaid : Prop := slabGoodUptoRow.holds Try.pinned (OpenSpec.upto slabGoodSpec)

/-- 'sandglasslaw04.SlabOwn', WHERE WHAT IT READS IS OF BULK AT MOST 1048576: true; the input reads as it did. -/
def slabOwnUptoRow : OpenClaim := { program := "ytadmgicmmnbdcaa", sum := "8344ad6fc776716128d8ff49b8854d8a5cc991a66d979305205ea70d35c57681", func := "sandglass/sandglasslaw04.SlabOwn", spec := "slabOwn", unfollowed := true, recurses := true, apart := false, narrowed := true }
def SlabOwnUptoSaid : Prop := slabOwnUptoRow.holds Try.pinned (OpenSpec.upto slabOwnSpec)

/-- 'sandglasslaw04.SlabAll', WHERE WHAT IT READS IS OF BULK AT MOST 1048576: true; the input reads as it did. -/
def slabAllUptoRow : OpenClaim := { program := "ytadmgicmmnbdcaa", sum := "8344ad6fc776716128d8ff49b8854d8a5cc991a66d979305205ea70d35c57681", func := "sandglass/sandglasslaw04.SlabAll", spec := "slabAll", unfollowed := true, recurses := true, apart := false, narrowed := true }
def SlabAllUptoSaid : Prop := slabAllUptoRow.holds Try.pinned (OpenSpec.upto slabAllSpec)

/-- 'sandglasslaw04.SlabNil', WHERE WHAT IT READS IS OF BULK AT MOST 1048576: true; the input reads as it did. -/
def slabNilUptoRow : OpenClaim := { program := "ytadmgicmmnbdcaa", sum := "8344ad6fc776716128d8ff49b8854d8a5cc991a66d979305205ea70d35c57681", func := "sandglass/sandglasslaw04.SlabNil", spec := "slabNil", unfollowed := true, recurses := true, apart := false, narrowed := true }
def SlabNilUptoSaid : Prop := slabNilUptoRow.holds Try.pinned (OpenSpec.upto slabNilSpec)

/-- 'sandglasslaw04.SlabRow', WHERE WHAT IT READS IS OF BULK AT MOST 1048576: true; the input reads as it did. -/
def slabRowUptoRow : OpenClaim := { program := "ytadmgicmmnbdcaa", sum := "8344ad6fc776716128d8ff49b8854d8a5cc991a66d979305205ea70d35c57681", func := "sandglass/sandglasslaw04.SlabRow", spec := "slabRow", unfollowed := true, recurses := true, apart := false, narrowed := true }
def SlabRowUptoSaid : Prop := slabRowUptoRow.holds Try.pinned (OpenSpec.upto slabRowSpec)

end Rows
end Go.Proofs.Ytadmgicmmnbdcaa
