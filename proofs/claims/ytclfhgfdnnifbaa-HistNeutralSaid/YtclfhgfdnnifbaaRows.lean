/-
  No cell of these rows narrows 'for every input' (looked for: loops, veiled, ifaces, maps, wideKeys, modest, calm, conditions, laid).
  DERIVED. THE GIVEN ROWS OF THIS SEAT. 4 by the template 'for every input the law returns true; each argument reads behind the call as it read before'; 0 by the template 'total and deterministic' (their statements: YtclfhgfdnnifbaaTotals.lean).
  GIVEN WITH THE SEED: the statements are not yours to turn. If you find one false, say at which input.
  Laid BY PROGRAM, IN A SANDBOX (cutbox-rows.mjs): the forced cells as the released guide's own fill.sh prints them over the translation 0b2ac946ad51c3bf… (all of the seat's roots in one cut). By AI agents, Wed Nov 11 2026. No macro, syntax, notation, axiom, sorry.
-/
import Derived.Test.YtclfhgfdnnifbaaChecked
import GoSem.Claim
import GoSem.ClaimJoined
import GoSem.ClaimMapViews
import Derived.JoinedTies
import Derived.KernelRfl
namespace Go.Proofs.Ytclfhgfdnnifbaa
/- THE CELL 'sum', in the pinned program and in every row, IS THE sha256 OF THE DUMP (.gsa) THAT YtclfhgfdnnifbaaProg.lean LOADS. Nothing in Lean hashes anything: it is a label: what it is worth is what the hold of that sum in a sandbox is worth. -/
noncomputable def Try.pinned : Pinned := { name := "ytclfhgfdnnifbaa", sum := "0b2ac946ad51c3bf88228a000c8e84feeb2f8e2a77c10d6d286aaa9350e7d63f", checked := Try.checked }
namespace Rows
def none {H : Type} : Left H := { results := [], args := [] }

/-- 'sandglasslaw15.HistAsks': WHATEVER THE INPUT: true; the input reads as it did. -/
def histAsksSpec : ChangeSpec := { name := "histAsks", fn := fun _ => fun
  | [d1, d2, d3] => { results := [.lit (.bool true)], args := [d1, d2, d3] }
  | _ => none }
def histAsksRow : OpenClaim := { program := "ytclfhgfdnnifbaa", sum := "0b2ac946ad51c3bf88228a000c8e84feeb2f8e2a77c10d6d286aaa9350e7d63f", func := "sandglass/sandglasslaw15.HistAsks", spec := "histAsks", unfollowed := true, recurses := true, apart := false }
def HistAsksSaid : Prop := histAsksRow.holds Try.pinned (OpenSpec.ofChange histAsksSpec)

/-- ITS FALSE NEIGHBOUR: 'it returns false'. Refute it at one input. -/
def histAsksWrong : ChangeSpec := { name := "histAsks", fn := fun _ => fun
  | [d1, d2, d3] => { results := [.lit (.bool false)], args := [d1, d2, d3] }
  | _ => none }
def HistAsksWrongFalsely : Prop := histAsksRow.holds Try.pinned (OpenSpec.ofChange histAsksWrong)

/-- 'sandglasslaw15.HistGrows': WHATEVER THE INPUT: true; the input reads as it did. -/
def histGrowsSpec : ChangeSpec := { name := "histGrows", fn := fun _ => fun
  | [d1, d2, d3] => { results := [.lit (.bool true)], args := [d1, d2, d3] }
  | _ => none }
def histGrowsRow : OpenClaim := { program := "ytclfhgfdnnifbaa", sum := "0b2ac946ad51c3bf88228a000c8e84feeb2f8e2a77c10d6d286aaa9350e7d63f", func := "sandglass/sandglasslaw15.HistGrows", spec := "histGrows", unfollowed := true, recurses := true, apart := false }
def HistGrowsSaid : Prop := histGrowsRow.holds Try.pinned (OpenSpec.ofChange histGrowsSpec)

/-- ITS FALSE NEIGHBOUR: 'it returns false'. Refute it at one input. -/
def histGrowsWrong : ChangeSpec := { name := "histGrows", fn := fun _ => fun
  | [d1, d2, d3] => { results := [.lit (.bool false)], args := [d1, d2, d3] }
  | _ => none }
def HistGrowsWrongFalsely : Prop := histGrowsRow.holds Try.pinned (OpenSpec.ofChange histGrowsWrong)

/-- 'sandglasslaw15.HistFades': WHATEVER THE INPUT: true; the input reads as it did. -/
def histFadesSpec : ChangeSpec := { name := "histFades", fn := fun _ => fun
  | [d1, d2, d3] => { results := [.lit (.bool true)], args := [d1, d2, d3] }
  | _ => none }
def histFadesRow : OpenClaim := { program := "ytclfhgfdnnifbaa", sum := "0b2ac946ad51c3bf88228a000c8e84feeb2f8e2a77c10d6d286aaa9350e7d63f", func := "sandglass/sandglasslaw15.HistFades", spec := "histFades", unfollowed := true, recurses := true, apart := false }
def HistFadesSaid : Prop := histFadesRow.holds Try.pinned (OpenSpec.ofChange histFadesSpec)

/-- ITS FALSE NEIGHBOUR: 'it returns false'. Refute it at one input. -/
def histFadesWrong : ChangeSpec := { name := "histFades", fn := fun _ => fun
  | [d1, d2, d3] => { results := [.lit (.bool false)], args := [d1, d2, d3] }
  | _ => none }
def HistFadesWrongFalsely : Prop := histFadesRow.holds Try.pinned (OpenSpec.ofChange histFadesWrong)

/-- 'sandglasslaw15.HistNeutral': WHATEVER THE INPUT: true; the input reads as it did. -/
def histNeutralSpec : ChangeSpec := { name := "histNeutral", fn := fun _ => fun
  | [d1, d2, d3] => { results := [.lit (.bool true)], args := [d1, d2, d3] }
  | _ => none }
def histNeutralRow : OpenClaim := { program := "ytclfhgfdnnifbaa", sum := "0b2ac946ad51c3bf88228a000c8e84feeb2f8e2a77c10d6d286aaa9350e7d63f", func := "sandglass/sandglasslaw15.HistNeutral", spec := "histNeutral", unfollowed := true, recurses := true, apart := false }
def HistNeutralSaid : Prop := histNeutralRow.holds Try.pinned (OpenSpec.ofChange histNeutralSpec)

/-- ITS FALSE NEIGHBOUR: 'it returns false'. Refute it at one input. -/
def histNeutralWrong : ChangeSpec := { name := "histNeutral", fn := fun _ => fun
  | [d1, d2, d3] => { results := [.lit (.bool false)], args := [d1, d2, d3] }
  | _ => none }
def HistNeutralWrongFalsely : Prop := histNeutralRow.holds Try.pinned (OpenSpec.ofChange histNeutralWrong)

/- THE SECOND FORM. 'bulk': how many values and letters a reading holds, each counted each time it is reached (what is shared counts as often as it is met; a slice's spare places count too). A statement '..UptoSaid' is the law's where the arguments, and the package variables that the reading takes, are together of bulk at most 1048576: NARROWER than '..Said'. Prove '..Said' where nothing that the law and all that it calls make is longer than what came in: it says more and counts as full. Else prove '..UptoSaid'. A law counts once. -/
mutual
def uptoBulk {H : Type} : DataW H → Nat
  | .lit (.string bytes) => bytes.length + 1
  | .lit _ => 1
  | .nil => 1
  | .ptr d => uptoBulk d + 1
  | .slice elems spare => uptoBulkAll elems + uptoBulkAll spare + 1
  | .agg parts => uptoBulkAll parts + 1
  | .iface _ d => uptoBulk d + 1
  | .map entries => uptoBulkEntries entries + 1
  | .held _ => 1
def uptoBulkAll {H : Type} : List (DataW H) → Nat
  | [] => 0
  | d :: r => uptoBulk d + uptoBulkAll r
def uptoBulkEntries {H : Type} : List (Lit × DataW H) → Nat
  | [] => 0
  | x :: r => uptoBulkEntry x + uptoBulkEntries r
def uptoBulkEntry {H : Type} : Lit × DataW H → Nat
  | (.string bytes, d) => bytes.length + uptoBulk d + 1
  | (_, d) => uptoBulk d + 1
 end
def uptoSmall : (H : Type) → List (DataW H) → Bool := fun _ ds => decide (uptoBulkAll ds ≤ 1048576)
def OpenSpec.upto (s : _root_.Go.ChangeSpec) : _root_.Go.OpenSpec := { _root_.Go.OpenSpec.ofChange s with cond := some uptoSmall }

/-- 'sandglasslaw15.HistAsks', WHERE WHAT IT READS IS OF BULK AT MOST 1048576: true; the input reads as it did. -/
def histAsksUptoRow : OpenClaim := { program := "ytclfhgfdnnifbaa", sum := "0b2ac946ad51c3bf88228a000c8e84feeb2f8e2a77c10d6d286aaa9350e7d63f", func := "sandglass/sandglasslaw15.HistAsks", spec := "histAsks", unfollowed := true, recurses := true, apart := false, narrowed := true }
def HistAsksUptoSaid : Prop := histAsksUptoRow.holds Try.pinned (OpenSpec.upto histAsksSpec)

/-- 'sandglasslaw15.HistGrows', WHERE WHAT IT READS IS OF BULK AT MOST 1048576: true; the input reads as it did. -/
def histGrowsUptoRow : OpenClaim := { program := "ytclfhgfdnnifbaa", sum := "0b2ac946ad51c3bf88228a000c8e84feeb2f8e2a77c10d6d286aaa9350e7d63f", func := "sandglass/sandglasslaw15.HistGrows", spec := "histGrows", unfollowed := true, recurses := true, apart := false, narrowed := true }
def HistGrowsUptoSaid : Prop := histGrowsUptoRow.holds Try.pinned (OpenSpec.upto histGrowsSpec)

/-- 'sandglasslaw15.HistFades', WHERE WHAT IT READS IS OF BULK AT MOST 1048576: true; the input reads as it did. -/
def histFadesUptoRow : OpenClaim := { program := "ytclfhgfdnnifbaa", sum := "0b2ac946ad51c3bf88228a000c8e84feeb2f8e2a77c10d6d286aaa9350e7d63f", func := "sandglass/sandglasslaw15.HistFades", spec := "histFades", unfollowed := true, recurses := true, apart := false, narrowed := true }
def HistFadesUptoSaid : Prop := histFadesUptoRow.holds Try.pinned (OpenSpec.upto histFadesSpec)

/-- 'sandglasslaw15.HistNeutral', WHERE WHAT IT READS IS OF BULK AT MOST 1048576: true; the input reads as it did. -/
def histNeutralUptoRow : OpenClaim := { program := "ytclfhgfdnnifbaa", sum := "0b2ac946ad51c3bf88228a000c8e84feeb2f8e2a77c10d6d286aaa9350e7d63f", func := "sandglass/sandglasslaw15.HistNeutral", spec := "histNeutral", unfollowed := true, recurses := true, apart := false, narrowed := true }
def HistNeutralUptoSaid : Prop := histNeutralUptoRow.holds Try.pinned (OpenSpec.upto histNeutralSpec)

end Rows
end Go.Proofs.Ytclfhgfdnnifbaa
