/-
  No cell of these rows narrows 'for every input' (looked for: loops, veiled, ifaces, maps, wideKeys, modest, calm, conditions, laid).
  DERIVED. THE GIVEN ROWS OF THIS SEAT. 14 by the template 'for every input the law returns true; each argument reads behind the call as it read before'; 0 by the template 'total and deterministic' (their statements: YthnefnlhcijekaaGreatTotals.lean).
  GIVEN WITH THE SEED: the statements are not yours to turn. If you find one false, say at which input.
  Laid BY PROGRAM, IN A SANDBOX (cutbox-rows.mjs): the forced cells as the released guide's own fill.sh prints them over the translation f0dd4a8f3e0e7304… (all of the seat's roots in one cut). By AI agents, Wed Nov 11 2026. No macro, syntax, notation, axiom, sorry.
-/
import Derived.Test.YthnefnlhcijekaaGreatChecked
import GoSem.Claim
import GoSem.ClaimJoined
import GoSem.ClaimMapViews
import Derived.JoinedTies
import Derived.KernelRfl
namespace Go.Proofs.YthnefnlhcijekaaGreat
/- THE CELL 'sum', in the pinned program and in every row, IS THE sha256 OF THE DUMP (.gsa) THAT YthnefnlhcijekaaGreatProg.lean LOADS. Nothing in Lean hashes anything: it is a label: what it is worth is what the hold of that sum in a sandbox is worth. -/
noncomputable def Tryz.pinned : Pinned := { name := "ythnefnlhcijekaagreat", sum := "f0dd4a8f3e0e7304c7ddb725ea368e236c58a165981b6b36346125789cce1049", checked := Tryz.checked }
namespace Rows
def none {H : Type} : Left H := { results := [], args := [] }

/-- 'sandglasslaw19.BatchNil': WHATEVER THE INPUT: true; the input reads as it did. -/
def batchNilSpec : ChangeSpec := { name := "batchNil", fn := fun _ => fun
  | [d1, d2, d3] => { results := [.lit (.bool true)], args := [d1, d2, d3] }
  | _ => none }
def batchNilRow : OpenClaim := { program := "ythnefnlhcijekaagreat", sum := "f0dd4a8f3e0e7304c7ddb725ea368e236c58a165981b6b36346125789cce1049", func := "sandglass/sandglasslaw19.BatchNil", spec := "batchNil", inPlace := ["internal/bytealg.abigen_runtime_cmpstring"], unfollowed := true, recurses := true, apart := false }
def BatchNilSaid : Prop := batchNilRow.holds Tryz.pinned (OpenSpec.ofChange batchNilSpec)

/-- ITS FALSE NEIGHBOUR: 'it returns false'. Refute it at one input. -/
def batchNilWrong : ChangeSpec := { name := "batchNil", fn := fun _ => fun
  | [d1, d2, d3] => { results := [.lit (.bool false)], args := [d1, d2, d3] }
  | _ => none }
def BatchNilWrongFalsely : Prop := batchNilRow.holds Tryz.pinned (OpenSpec.ofChange batchNilWrong)

/-- 'sandglasslaw19.BatchAll': WHATEVER THE INPUT: true; the input reads as it did. -/
def batchAllSpec : ChangeSpec := { name := "batchAll", fn := fun _ => fun
  | [d1, d2, d3] => { results := [.lit (.bool true)], args := [d1, d2, d3] }
  | _ => none }
def batchAllRow : OpenClaim := { program := "ythnefnlhcijekaagreat", sum := "f0dd4a8f3e0e7304c7ddb725ea368e236c58a165981b6b36346125789cce1049", func := "sandglass/sandglasslaw19.BatchAll", spec := "batchAll", inPlace := ["internal/bytealg.abigen_runtime_cmpstring"], unfollowed := true, recurses := true, apart := false }
def BatchAllSaid : Prop := batchAllRow.holds Tryz.pinned (OpenSpec.ofChange batchAllSpec)

/-- ITS FALSE NEIGHBOUR: 'it returns false'. Refute it at one input. -/
def batchAllWrong : ChangeSpec := { name := "batchAll", fn := fun _ => fun
  | [d1, d2, d3] => { results := [.lit (.bool false)], args := [d1, d2, d3] }
  | _ => none }
def BatchAllWrongFalsely : Prop := batchAllRow.holds Tryz.pinned (OpenSpec.ofChange batchAllWrong)

/-- 'sandglasslaw19.BatchOne': WHATEVER THE INPUT: true; the input reads as it did. -/
def batchOneSpec : ChangeSpec := { name := "batchOne", fn := fun _ => fun
  | [d1, d2, d3] => { results := [.lit (.bool true)], args := [d1, d2, d3] }
  | _ => none }
def batchOneRow : OpenClaim := { program := "ythnefnlhcijekaagreat", sum := "f0dd4a8f3e0e7304c7ddb725ea368e236c58a165981b6b36346125789cce1049", func := "sandglass/sandglasslaw19.BatchOne", spec := "batchOne", inPlace := ["internal/bytealg.abigen_runtime_cmpstring"], unfollowed := true, recurses := true, apart := false }
def BatchOneSaid : Prop := batchOneRow.holds Tryz.pinned (OpenSpec.ofChange batchOneSpec)

/-- ITS FALSE NEIGHBOUR: 'it returns false'. Refute it at one input. -/
def batchOneWrong : ChangeSpec := { name := "batchOne", fn := fun _ => fun
  | [d1, d2, d3] => { results := [.lit (.bool false)], args := [d1, d2, d3] }
  | _ => none }
def BatchOneWrongFalsely : Prop := batchOneRow.holds Tryz.pinned (OpenSpec.ofChange batchOneWrong)

/-- 'sandglasslaw18.EngineSeeds': WHATEVER THE INPUT: true; the input reads as it did. -/
def engineSeedsSpec : ChangeSpec := { name := "engineSeeds", fn := fun _ => fun
  | [d1, d2, d3] => { results := [.lit (.bool true)], args := [d1, d2, d3] }
  | _ => none }
def engineSeedsRow : OpenClaim := { program := "ythnefnlhcijekaagreat", sum := "f0dd4a8f3e0e7304c7ddb725ea368e236c58a165981b6b36346125789cce1049", func := "sandglass/sandglasslaw18.EngineSeeds", spec := "engineSeeds", inPlace := ["internal/bytealg.abigen_runtime_cmpstring"], unfollowed := true, recurses := true, apart := false }
def EngineSeedsSaid : Prop := engineSeedsRow.holds Tryz.pinned (OpenSpec.ofChange engineSeedsSpec)

/-- ITS FALSE NEIGHBOUR: 'it returns false'. Refute it at one input. -/
def engineSeedsWrong : ChangeSpec := { name := "engineSeeds", fn := fun _ => fun
  | [d1, d2, d3] => { results := [.lit (.bool false)], args := [d1, d2, d3] }
  | _ => none }
def EngineSeedsWrongFalsely : Prop := engineSeedsRow.holds Tryz.pinned (OpenSpec.ofChange engineSeedsWrong)

/-- 'sandglasslaw18.EngineRoom': WHATEVER THE INPUT: true; the input reads as it did. -/
def engineRoomSpec : ChangeSpec := { name := "engineRoom", fn := fun _ => fun
  | [d1, d2] => { results := [.lit (.bool true)], args := [d1, d2] }
  | _ => none }
def engineRoomRow : OpenClaim := { program := "ythnefnlhcijekaagreat", sum := "f0dd4a8f3e0e7304c7ddb725ea368e236c58a165981b6b36346125789cce1049", func := "sandglass/sandglasslaw18.EngineRoom", spec := "engineRoom", inPlace := ["internal/bytealg.abigen_runtime_cmpstring"], unfollowed := true, recurses := true, apart := false }
def EngineRoomSaid : Prop := engineRoomRow.holds Tryz.pinned (OpenSpec.ofChange engineRoomSpec)

/-- ITS FALSE NEIGHBOUR: 'it returns false'. Refute it at one input. -/
def engineRoomWrong : ChangeSpec := { name := "engineRoom", fn := fun _ => fun
  | [d1, d2] => { results := [.lit (.bool false)], args := [d1, d2] }
  | _ => none }
def EngineRoomWrongFalsely : Prop := engineRoomRow.holds Tryz.pinned (OpenSpec.ofChange engineRoomWrong)

/-- 'sandglasslaw18.EngineWork': WHATEVER THE INPUT: true; the input reads as it did. -/
def engineWorkSpec : ChangeSpec := { name := "engineWork", fn := fun _ => fun
  | [d1, d2, d3] => { results := [.lit (.bool true)], args := [d1, d2, d3] }
  | _ => none }
def engineWorkRow : OpenClaim := { program := "ythnefnlhcijekaagreat", sum := "f0dd4a8f3e0e7304c7ddb725ea368e236c58a165981b6b36346125789cce1049", func := "sandglass/sandglasslaw18.EngineWork", spec := "engineWork", inPlace := ["internal/bytealg.abigen_runtime_cmpstring"], unfollowed := true, recurses := true, apart := false }
def EngineWorkSaid : Prop := engineWorkRow.holds Tryz.pinned (OpenSpec.ofChange engineWorkSpec)

/-- ITS FALSE NEIGHBOUR: 'it returns false'. Refute it at one input. -/
def engineWorkWrong : ChangeSpec := { name := "engineWork", fn := fun _ => fun
  | [d1, d2, d3] => { results := [.lit (.bool false)], args := [d1, d2, d3] }
  | _ => none }
def EngineWorkWrongFalsely : Prop := engineWorkRow.holds Tryz.pinned (OpenSpec.ofChange engineWorkWrong)

/-- 'sandglasslaw18.EngineCopies': WHATEVER THE INPUT: true; the input reads as it did. -/
def engineCopiesSpec : ChangeSpec := { name := "engineCopies", fn := fun _ => fun
  | [d1, d2, d3] => { results := [.lit (.bool true)], args := [d1, d2, d3] }
  | _ => none }
def engineCopiesRow : OpenClaim := { program := "ythnefnlhcijekaagreat", sum := "f0dd4a8f3e0e7304c7ddb725ea368e236c58a165981b6b36346125789cce1049", func := "sandglass/sandglasslaw18.EngineCopies", spec := "engineCopies", inPlace := ["internal/bytealg.abigen_runtime_cmpstring"], unfollowed := true, recurses := true, apart := false }
def EngineCopiesSaid : Prop := engineCopiesRow.holds Tryz.pinned (OpenSpec.ofChange engineCopiesSpec)

/-- ITS FALSE NEIGHBOUR: 'it returns false'. Refute it at one input. -/
def engineCopiesWrong : ChangeSpec := { name := "engineCopies", fn := fun _ => fun
  | [d1, d2, d3] => { results := [.lit (.bool false)], args := [d1, d2, d3] }
  | _ => none }
def EngineCopiesWrongFalsely : Prop := engineCopiesRow.holds Tryz.pinned (OpenSpec.ofChange engineCopiesWrong)

/-- 'sandglasslaw18.EngineForgets': WHATEVER THE INPUT: true; the input reads as it did. -/
def engineForgetsSpec : ChangeSpec := { name := "engineForgets", fn := fun _ => fun
  | [d1, d2, d3] => { results := [.lit (.bool true)], args := [d1, d2, d3] }
  | _ => none }
def engineForgetsRow : OpenClaim := { program := "ythnefnlhcijekaagreat", sum := "f0dd4a8f3e0e7304c7ddb725ea368e236c58a165981b6b36346125789cce1049", func := "sandglass/sandglasslaw18.EngineForgets", spec := "engineForgets", inPlace := ["internal/bytealg.abigen_runtime_cmpstring"], unfollowed := true, recurses := true, apart := false }
def EngineForgetsSaid : Prop := engineForgetsRow.holds Tryz.pinned (OpenSpec.ofChange engineForgetsSpec)

/-- ITS FALSE NEIGHBOUR: 'it returns false'. Refute it at one input. -/
def engineForgetsWrong : ChangeSpec := { name := "engineForgets", fn := fun _ => fun
  | [d1, d2, d3] => { results := [.lit (.bool false)], args := [d1, d2, d3] }
  | _ => none }
def EngineForgetsWrongFalsely : Prop := engineForgetsRow.holds Tryz.pinned (OpenSpec.ofChange engineForgetsWrong)

/-- 'sandglasslaw18.EngineClock': WHATEVER THE INPUT: true; the input reads as it did. -/
def engineClockSpec : ChangeSpec := { name := "engineClock", fn := fun _ => fun
  | [d1, d2] => { results := [.lit (.bool true)], args := [d1, d2] }
  | _ => none }
def engineClockRow : OpenClaim := { program := "ythnefnlhcijekaagreat", sum := "f0dd4a8f3e0e7304c7ddb725ea368e236c58a165981b6b36346125789cce1049", func := "sandglass/sandglasslaw18.EngineClock", spec := "engineClock", inPlace := ["internal/bytealg.abigen_runtime_cmpstring"], unfollowed := true, recurses := true, apart := false }
def EngineClockSaid : Prop := engineClockRow.holds Tryz.pinned (OpenSpec.ofChange engineClockSpec)

/-- ITS FALSE NEIGHBOUR: 'it returns false'. Refute it at one input. -/
def engineClockWrong : ChangeSpec := { name := "engineClock", fn := fun _ => fun
  | [d1, d2] => { results := [.lit (.bool false)], args := [d1, d2] }
  | _ => none }
def EngineClockWrongFalsely : Prop := engineClockRow.holds Tryz.pinned (OpenSpec.ofChange engineClockWrong)

/-- 'sandglasslaw18.EngineScripts': WHATEVER THE INPUT: true; the input reads as it did. -/
def engineScriptsSpec : ChangeSpec := { name := "engineScripts", fn := fun _ => fun
  | [d1, d2] => { results := [.lit (.bool true)], args := [d1, d2] }
  | _ => none }
def engineScriptsRow : OpenClaim := { program := "ythnefnlhcijekaagreat", sum := "f0dd4a8f3e0e7304c7ddb725ea368e236c58a165981b6b36346125789cce1049", func := "sandglass/sandglasslaw18.EngineScripts", spec := "engineScripts", inPlace := ["internal/bytealg.abigen_runtime_cmpstring"], unfollowed := true, recurses := true, apart := false }
def EngineScriptsSaid : Prop := engineScriptsRow.holds Tryz.pinned (OpenSpec.ofChange engineScriptsSpec)

/-- ITS FALSE NEIGHBOUR: 'it returns false'. Refute it at one input. -/
def engineScriptsWrong : ChangeSpec := { name := "engineScripts", fn := fun _ => fun
  | [d1, d2] => { results := [.lit (.bool false)], args := [d1, d2] }
  | _ => none }
def EngineScriptsWrongFalsely : Prop := engineScriptsRow.holds Tryz.pinned (OpenSpec.ofChange engineScriptsWrong)

/-- 'sandglasslaw18.EngineNil': WHATEVER THE INPUT: true; the input reads as it did. -/
def engineNilSpec : ChangeSpec := { name := "engineNil", fn := fun _ => fun
  | [d] => { results := [.lit (.bool true)], args := [d] }
  | _ => none }
def engineNilRow : OpenClaim := { program := "ythnefnlhcijekaagreat", sum := "f0dd4a8f3e0e7304c7ddb725ea368e236c58a165981b6b36346125789cce1049", func := "sandglass/sandglasslaw18.EngineNil", spec := "engineNil", inPlace := ["internal/bytealg.abigen_runtime_cmpstring"], unfollowed := true, recurses := true, apart := false }
def EngineNilSaid : Prop := engineNilRow.holds Tryz.pinned (OpenSpec.ofChange engineNilSpec)

/-- ITS FALSE NEIGHBOUR: 'it returns false'. Refute it at one input. -/
def engineNilWrong : ChangeSpec := { name := "engineNil", fn := fun _ => fun
  | [d] => { results := [.lit (.bool false)], args := [d] }
  | _ => none }
def EngineNilWrongFalsely : Prop := engineNilRow.holds Tryz.pinned (OpenSpec.ofChange engineNilWrong)

/-- 'sandglasslaw19.BatchScripts': WHATEVER THE INPUT: true; the input reads as it did. -/
def batchScriptsSpec : ChangeSpec := { name := "batchScripts", fn := fun _ => fun
  | [d1, d2] => { results := [.lit (.bool true)], args := [d1, d2] }
  | _ => none }
def batchScriptsRow : OpenClaim := { program := "ythnefnlhcijekaagreat", sum := "f0dd4a8f3e0e7304c7ddb725ea368e236c58a165981b6b36346125789cce1049", func := "sandglass/sandglasslaw19.BatchScripts", spec := "batchScripts", inPlace := ["internal/bytealg.abigen_runtime_cmpstring"], unfollowed := true, recurses := true, apart := false }
def BatchScriptsSaid : Prop := batchScriptsRow.holds Tryz.pinned (OpenSpec.ofChange batchScriptsSpec)

/-- ITS FALSE NEIGHBOUR: 'it returns false'. Refute it at one input. -/
def batchScriptsWrong : ChangeSpec := { name := "batchScripts", fn := fun _ => fun
  | [d1, d2] => { results := [.lit (.bool false)], args := [d1, d2] }
  | _ => none }
def BatchScriptsWrongFalsely : Prop := batchScriptsRow.holds Tryz.pinned (OpenSpec.ofChange batchScriptsWrong)

/-- 'sandglasslaw19.BatchPages': WHATEVER THE INPUT: true; the input reads as it did. -/
def batchPagesSpec : ChangeSpec := { name := "batchPages", fn := fun _ => fun
  | [d1, d2, d3] => { results := [.lit (.bool true)], args := [d1, d2, d3] }
  | _ => none }
def batchPagesRow : OpenClaim := { program := "ythnefnlhcijekaagreat", sum := "f0dd4a8f3e0e7304c7ddb725ea368e236c58a165981b6b36346125789cce1049", func := "sandglass/sandglasslaw19.BatchPages", spec := "batchPages", inPlace := ["internal/bytealg.abigen_runtime_cmpstring"], unfollowed := true, recurses := true, apart := false }
def BatchPagesSaid : Prop := batchPagesRow.holds Tryz.pinned (OpenSpec.ofChange batchPagesSpec)

/-- ITS FALSE NEIGHBOUR: 'it returns false'. Refute it at one input. -/
def batchPagesWrong : ChangeSpec := { name := "batchPages", fn := fun _ => fun
  | [d1, d2, d3] => { results := [.lit (.bool false)], args := [d1, d2, d3] }
  | _ => none }
def BatchPagesWrongFalsely : Prop := batchPagesRow.holds Tryz.pinned (OpenSpec.ofChange batchPagesWrong)

/-- 'sandglasslaw18.EngineAlone': WHATEVER THE INPUT: true; the input reads as it did. -/
def engineAloneSpec : ChangeSpec := { name := "engineAlone", fn := fun _ => fun
  | [d1, d2, d3] => { results := [.lit (.bool true)], args := [d1, d2, d3] }
  | _ => none }
def engineAloneRow : OpenClaim := { program := "ythnefnlhcijekaagreat", sum := "f0dd4a8f3e0e7304c7ddb725ea368e236c58a165981b6b36346125789cce1049", func := "sandglass/sandglasslaw18.EngineAlone", spec := "engineAlone", inPlace := ["internal/bytealg.abigen_runtime_cmpstring"], unfollowed := true, recurses := true, apart := false }
def EngineAloneSaid : Prop := engineAloneRow.holds Tryz.pinned (OpenSpec.ofChange engineAloneSpec)

/-- ITS FALSE NEIGHBOUR: 'it returns false'. Refute it at one input. -/
def engineAloneWrong : ChangeSpec := { name := "engineAlone", fn := fun _ => fun
  | [d1, d2, d3] => { results := [.lit (.bool false)], args := [d1, d2, d3] }
  | _ => none }
def EngineAloneWrongFalsely : Prop := engineAloneRow.holds Tryz.pinned (OpenSpec.ofChange engineAloneWrong)

/- THE SECOND FORM. 'bulk': how many values and letters a reading holds, each counted each time it is reached (what is shared counts as often as it is met; a slice's spare places count too). A statement '..UptoSaid' is the law's where the arguments, and the package variables that the reading takes, are together of bulk at most 1048576: NARROWER than '..Said'. Prove '..Said' where nothing that the law and all that it calls make is longer than what came in: it says more and counts as full. Else prove '..UptoSaid'. A law counts once. -/
mutual
def uptoBulk {H : Type} : DataW H → Nat
  | .lit (.string bytes) => bytes.length + 1
  | .lit _ => 1
  | .nil => 1
  | .ptr d => uptoBulk d + 1
  | .slice elems spare => uptoBulkAll elems + uptoBulkAll spare + 1
  | .agg parts => uptoBulkAll parts + 1
  | .iface _ d => uptoBulk d + 1
  | .map entries => uptoBulkEntries entries + 1
  | .held _ => 1
def uptoBulkAll {H : Type} : List (DataW H) → Nat
  | [] => 0
  | d :: r => uptoBulk d + uptoBulkAll r
def uptoBulkEntries {H : Type} : List (Lit × DataW H) → Nat
  | [] => 0
  | x :: r => uptoBulkEntry x + uptoBulkEntries r
def uptoBulkEntry {H : Type} : Lit × DataW H → Nat
  | (.string bytes, d) => bytes.length + uptoBulk d + 1
  | (_, d) => uptoBulk d + 1
 end
def uptoSmall : (H : Type) → List (DataW H) → Bool := fun _ ds => decide (uptoBulkAll ds ≤ 1048576)
def OpenSpec.upto (s : _root_.Go.ChangeSpec) : _root_.Go.OpenSpec := { _root_.Go.OpenSpec.ofChange s with cond := some uptoSmall }

/-- 'sandglasslaw19.BatchNil', WHERE WHAT IT READS IS OF BULK AT MOST 1048576: true; the input reads as it did. -/
def batchNilUptoRow : OpenClaim := { program := "ythnefnlhcijekaagreat", sum := "f0dd4a8f3e0e7304c7ddb725ea368e236c58a165981b6b36346125789cce1049", func := "sandglass/sandglasslaw19.BatchNil", spec := "batchNil", inPlace := ["internal/bytealg.abigen_runtime_cmpstring"], unfollowed := true, recurses := true, apart := false, narrowed := true }
def BatchNilUptoSaid : Prop := batchNilUptoRow.holds Tryz.pinned (OpenSpec.upto batchNilSpec)

/-- 'sandglasslaw19.BatchAll', WHERE WHAT IT READS IS OF BULK AT MOST 1048576: true; the input reads as it did. -/
def batchAllUptoRow : OpenClaim := { program := "ythnefnlhcijekaagreat", sum := "f0dd4a8f3e0e7304c7ddb725ea368e236c58a165981b6b36346125789cce1049", func := "sandglass/sandglasslaw19.BatchAll", spec := "batchAll", inPlace := ["internal/bytealg.abigen_runtime_cmpstring"], unfollowed := true, recurses := true, apart := false, narrowed := true }
def BatchAllUptoSaid : Prop := batchAllUptoRow.holds Tryz.pinned (OpenSpec.upto batchAllSpec)

/-- 'sandglasslaw19.BatchOne', WHERE WHAT IT READS IS OF BULK AT MOST 1048576: true; the input reads as it did. -/
def batchOneUptoRow : OpenClaim := { program := "ythnefnlhcijekaagreat", sum := "f0dd4a8f3e0e7304c7ddb725ea368e236c58a165981b6b36346125789cce1049", func := "sandglass/sandglasslaw19.BatchOne", spec := "batchOne", inPlace := ["internal/bytealg.abigen_runtime_cmpstring"], unfollowed := true, recurses := true, apart := false, narrowed := true }
def BatchOneUptoSaid : Prop := batchOneUptoRow.holds Tryz.pinned (OpenSpec.upto batchOneSpec)

/-- 'sandglasslaw18.EngineSeeds', WHERE WHAT IT READS IS OF BULK AT MOST 1048576: true; the input reads as it did. -/
def engineSeedsUptoRow : OpenClaim := { program := "ythnefnlhcijekaagreat", sum := "f0dd4a8f3e0e7304c7ddb725ea368e236c58a165981b6b36346125789cce1049", func := "sandglass/sandglasslaw18.EngineSeeds", spec := "engineSeeds", inPlace := ["internal/bytealg.abigen_runtime_cmpstring"], unfollowed := true, recurses := true, apart := false, narrowed := true }
def EngineSeedsUptoSaid : Prop := engineSeedsUptoRow.holds Tryz.pinned (OpenSpec.upto engineSeedsSpec)

/-- 'sandglasslaw18.EngineRoom', WHERE WHAT IT READS IS OF BULK AT MOST 1048576: true; the input reads as it did. -/
def engineRoomUptoRow : OpenClaim := { program := "ythnefnlhcijekaagreat", sum := "f0dd4a8f3e0e7304c7ddb725ea368e236c58a165981b6b36346125789cce1049", func := "sandglass/sandglasslaw18.EngineRoom", spec := "engineRoom", inPlace := ["internal/bytealg.abigen_runtime_cmpstring"], unfollowed := true, recurses := true, apart := false, narrowed := true }
def EngineRoomUptoSaid : Prop := engineRoomUptoRow.holds Tryz.pinned (OpenSpec.upto engineRoomSpec)

/-- 'sandglasslaw18.EngineWork', WHERE WHAT IT READS IS OF BULK AT MOST 1048576: true; the input reads as it did. -/
def engineWorkUptoRow : OpenClaim := { program := "ythnefnlhcijekaagreat", sum := "f0dd4a8f3e0e7304c7ddb725ea368e236c58a165981b6b36346125789cce1049", func := "sandglass/sandglasslaw18.EngineWork", spec := "engineWork", inPlace := ["internal/bytealg.abigen_runtime_cmpstring"], unfollowed := true, recurses := true, apart := false, narrowed := true }
def EngineWorkUptoSaid : Prop := engineWorkUptoRow.holds Tryz.pinned (OpenSpec.upto engineWorkSpec)

/-- 'sandglasslaw18.EngineCopies', WHERE WHAT IT READS IS OF BULK AT MOST 1048576: true; the input reads as it did. -/
def engineCopiesUptoRow : OpenClaim := { program := "ythnefnlhcijekaagreat", sum := "f0dd4a8f3e0e7304c7ddb725ea368e236c58a165981b6b36346125789cce1049", func := "sandglass/sandglasslaw18.EngineCopies", spec := "engineCopies", inPlace := ["internal/bytealg.abigen_runtime_cmpstring"], unfollowed := true, recurses := true, apart := false, narrowed := true }
def EngineCopiesUptoSaid : Prop := engineCopiesUptoRow.holds Tryz.pinned (OpenSpec.upto engineCopiesSpec)

/-- 'sandglasslaw18.EngineForgets', WHERE WHAT IT READS IS OF BULK AT MOST 1048576: true; the input reads as it did. -/
def engineForgetsUptoRow : OpenClaim := { program := "ythnefnlhcijekaagreat", sum := "f0dd4a8f3e0e7304c7ddb725ea368e236c58a165981b6b36346125789cce1049", func := "sandglass/sandglasslaw18.EngineForgets", spec := "engineForgets", inPlace := ["internal/bytealg.abigen_runtime_cmpstring"], unfollowed := true, recurses := true, apart := false, narrowed := true }
def EngineForgetsUptoSaid : Prop := engineForgetsUptoRow.holds Tryz.pinned (OpenSpec.upto engineForgetsSpec)

/-- 'sandglasslaw18.EngineClock', WHERE WHAT IT READS IS OF BULK AT MOST 1048576: true; the input reads as it did. -/
def engineClockUptoRow : OpenClaim := { program := "ythnefnlhcijekaagreat", sum := "f0dd4a8f3e0e7304c7ddb725ea368e236c58a165981b6b36346125789cce1049", func := "sandglass/sandglasslaw18.EngineClock", spec := "engineClock", inPlace := ["internal/bytealg.abigen_runtime_cmpstring"], unfollowed := true, recurses := true, apart := false, narrowed := true }
def EngineClockUptoSaid : Prop := engineClockUptoRow.holds Tryz.pinned (OpenSpec.upto engineClockSpec)

/-- 'sandglasslaw18.EngineScripts', WHERE WHAT IT READS IS OF BULK AT MOST 1048576: true; the input reads as it did. -/
def engineScriptsUptoRow : OpenClaim := { program := "ythnefnlhcijekaagreat", sum := "f0dd4a8f3e0e7304c7ddb725ea368e236c58a165981b6b36346125789cce1049", func := "sandglass/sandglasslaw18.EngineScripts", spec := "engineScripts", inPlace := ["internal/bytealg.abigen_runtime_cmpstring"], unfollowed := true, recurses := true, apart := false, narrowed := true }
def EngineScriptsUptoSaid : Prop := engineScriptsUptoRow.holds Tryz.pinned (OpenSpec.upto engineScriptsSpec)

/-- 'sandglasslaw18.EngineNil', WHERE WHAT IT READS IS OF BULK AT MOST 1048576: true; the input reads as it did. -/
def engineNilUptoRow : OpenClaim := { program := "ythnefnlhcijekaagreat", sum := "f0dd4a8f3e0e7304c7ddb725ea368e236c58a165981b6b36346125789cce1049", func := "sandglass/sandglasslaw18.EngineNil", spec := "engineNil", inPlace := ["internal/bytealg.abigen_runtime_cmpstring"], unfollowed := true, recurses := true, apart := false, narrowed := true }
def EngineNilUptoSaid : Prop := engineNilUptoRow.holds Tryz.pinned (OpenSpec.upto engineNilSpec)

/-- 'sandglasslaw19.BatchScripts', WHERE WHAT IT READS IS OF BULK AT MOST 1048576: true; the input reads as it did. -/
def batchScriptsUptoRow : OpenClaim := { program := "ythnefnlhcijekaagreat", sum := "f0dd4a8f3e0e7304c7ddb725ea368e236c58a165981b6b36346125789cce1049", func := "sandglass/sandglasslaw19.BatchScripts", spec := "batchScripts", inPlace := ["internal/bytealg.abigen_runtime_cmpstring"], unfollowed := true, recurses := true, apart := false, narrowed := true }
def BatchScriptsUptoSaid : Prop := batchScriptsUptoRow.holds Tryz.pinned (OpenSpec.upto batchScriptsSpec)

/-- 'sandglasslaw19.BatchPages', WHERE WHAT IT READS IS OF BULK AT MOST 1048576: true; the input reads as it did. -/
def batchPagesUptoRow : OpenClaim := { program := "ythnefnlhcijekaagreat", sum := "f0dd4a8f3e0e7304c7ddb725ea368e236c58a165981b6b36346125789cce1049", func := "sandglass/sandglasslaw19.BatchPages", spec := "batchPages", inPlace := ["internal/bytealg.abigen_runtime_cmpstring"], unfollowed := true, recurses := true, apart := false, narrowed := true }
def BatchPagesUptoSaid : Prop := batchPagesUptoRow.holds Tryz.pinned (OpenSpec.upto batchPagesSpec)

/-- 'sandglasslaw18.EngineAlone', WHERE WHAT IT READS IS OF BULK AT MOST 1048576: true; the input reads as it did. -/
def engineAloneUptoRow : OpenClaim := { program := "ythnefnlhcijekaagreat", sum := "f0dd4a8f3e0e7304c7ddb725ea368e236c58a165981b6b36346125789cce1049", func := "sandglass/sandglasslaw18.EngineAlone", spec := "engineAlone", inPlace := ["internal/bytealg.abigen_runtime_cmpstring"], unfollowed := true, recurses := true, apart := false, narrowed := true }
def EngineAloneUptoSaid : Prop := engineAloneUptoRow.holds Tryz.pinned (OpenSpec.upto engineAloneSpec)

end Rows
end Go.Proofs.YthnefnlhcijekaaGreat
