/-
  No cell of these rows narrows 'for every input' (looked for: loops, veiled, ifaces, maps, wideKeys, modest, calm, conditions, laid).
  DERIVED. THE GIVEN ROWS OF THIS SEAT. 6 by the template 'for every input the law returns true; each argument reads behind the call as it read before'; 0 by the template 'total and deterministic' (their statements: YtkcifdblaboodaaTotals.lean).
  GIVEN WITH THE SEED: the statements are not yours to turn. If you find one false, say at which input.
  Laid BY PROGRAM, IN A SANDBOX (cutbox-rows.mjs): the forced cells as the released guide's own fill.sh prints them over the translation 5c3ef88de584d0ed… (all of the seat's roots in one cut). By AI agents, Wed Nov 11 2026. No macro, syntax, notation, axiom, sorry.
-/
import Derived.Test.YtkcifdblaboodaaChecked
import GoSem.Claim
import GoSem.ClaimJoined
import GoSem.ClaimMapViews
import Derived.JoinedTies
import Derived.KernelRfl
namespace Go.Proofs.Ytkcifdblaboodaa
/- THE CELL 'sum', in the pinned program and in every row, IS THE sha256 OF THE DUMP (.gsa) THAT YtkcifdblaboodaaProg.lean LOADS. Nothing in Lean hashes anything: it is a label: what it is worth is what the hold of that sum in a sandbox is worth. -/
noncomputable def Try.pinned : Pinned := { name := "ytkcifdblaboodaa", sum := "5c3ef88de584d0ed23bf0e29bb303f88d5e9c2a914e50700e3b556ed5dbef200", checked := Try.checked }
namespace Rows
def none {H : Type} : Left H := { results := [], args := [] }

/-- 'sandglasslaw15.HistSame': WHATEVER THE INPUT: true; the input reads as it did. -/
def histSameSpec : ChangeSpec := { name := "histSame", fn := fun _ => fun
  | [d1, d2, d3] => { results := [.lit (.bool true)], args := [d1, d2, d3] }
  | _ => none }
def histSameRow : OpenClaim := { program := "ytkcifdblaboodaa", sum := "5c3ef88de584d0ed23bf0e29bb303f88d5e9c2a914e50700e3b556ed5dbef200", func := "sandglass/sandglasslaw15.HistSame", spec := "histSame", unfollowed := true, recurses := true, apart := false }
def HistSameSaid : Prop := histSameRow.holds Try.pinned (OpenSpec.ofChange histSameSpec)

/-- ITS FALSE NEIGHBOUR: 'it returns false'. Refute it at one input. -/
def histSameWrong : ChangeSpec := { name := "histSame", fn := fun _ => fun
  | [d1, d2, d3] => { results := [.lit (.bool false)], args := [d1, d2, d3] }
  | _ => none }
def HistSameWrongFalsely : Prop := histSameRow.holds Try.pinned (OpenSpec.ofChange histSameWrong)

/-- 'sandglasslaw14.CellBack': WHATEVER THE INPUT: true; the input reads as it did. -/
def cellBackSpec : ChangeSpec := { name := "cellBack", fn := fun _ => fun
  | [d1, d2, d3] => { results := [.lit (.bool true)], args := [d1, d2, d3] }
  | _ => none }
def cellBackRow : OpenClaim := { program := "ytkcifdblaboodaa", sum := "5c3ef88de584d0ed23bf0e29bb303f88d5e9c2a914e50700e3b556ed5dbef200", func := "sandglass/sandglasslaw14.CellBack", spec := "cellBack", unfollowed := true, recurses := true, apart := false }
def CellBackSaid : Prop := cellBackRow.holds Try.pinned (OpenSpec.ofChange cellBackSpec)

/-- ITS FALSE NEIGHBOUR: 'it returns false'. Refute it at one input. -/
def cellBackWrong : ChangeSpec := { name := "cellBack", fn := fun _ => fun
  | [d1, d2, d3] => { results := [.lit (.bool false)], args := [d1, d2, d3] }
  | _ => none }
def CellBackWrongFalsely : Prop := cellBackRow.holds Try.pinned (OpenSpec.ofChange cellBackWrong)

/-- 'sandglasslaw14.CellNeutral': WHATEVER THE INPUT: true; the input reads as it did. -/
def cellNeutralSpec : ChangeSpec := { name := "cellNeutral", fn := fun _ => fun
  | [d1, d2, d3] => { results := [.lit (.bool true)], args := [d1, d2, d3] }
  | _ => none }
def cellNeutralRow : OpenClaim := { program := "ytkcifdblaboodaa", sum := "5c3ef88de584d0ed23bf0e29bb303f88d5e9c2a914e50700e3b556ed5dbef200", func := "sandglass/sandglasslaw14.CellNeutral", spec := "cellNeutral", unfollowed := true, recurses := true, apart := false }
def CellNeutralSaid : Prop := cellNeutralRow.holds Try.pinned (OpenSpec.ofChange cellNeutralSpec)

/-- ITS FALSE NEIGHBOUR: 'it returns false'. Refute it at one input. -/
def cellNeutralWrong : ChangeSpec := { name := "cellNeutral", fn := fun _ => fun
  | [d1, d2, d3] => { results := [.lit (.bool false)], args := [d1, d2, d3] }
  | _ => none }
def CellNeutralWrongFalsely : Prop := cellNeutralRow.holds Try.pinned (OpenSpec.ofChange cellNeutralWrong)

/-- 'sandglasslaw14.CellLater': WHATEVER THE INPUT: true; the input reads as it did. -/
def cellLaterSpec : ChangeSpec := { name := "cellLater", fn := fun _ => fun
  | [d1, d2, d3] => { results := [.lit (.bool true)], args := [d1, d2, d3] }
  | _ => none }
def cellLaterRow : OpenClaim := { program := "ytkcifdblaboodaa", sum := "5c3ef88de584d0ed23bf0e29bb303f88d5e9c2a914e50700e3b556ed5dbef200", func := "sandglass/sandglasslaw14.CellLater", spec := "cellLater", unfollowed := true, recurses := true, apart := false }
def CellLaterSaid : Prop := cellLaterRow.holds Try.pinned (OpenSpec.ofChange cellLaterSpec)

/-- ITS FALSE NEIGHBOUR: 'it returns false'. Refute it at one input. -/
def cellLaterWrong : ChangeSpec := { name := "cellLater", fn := fun _ => fun
  | [d1, d2, d3] => { results := [.lit (.bool false)], args := [d1, d2, d3] }
  | _ => none }
def CellLaterWrongFalsely : Prop := cellLaterRow.holds Try.pinned (OpenSpec.ofChange cellLaterWrong)

/-- 'sandglasslaw14.CellOne': WHATEVER THE INPUT: true; the input reads as it did. -/
def cellOneSpec : ChangeSpec := { name := "cellOne", fn := fun _ => fun
  | [d1, d2, d3] => { results := [.lit (.bool true)], args := [d1, d2, d3] }
  | _ => none }
def cellOneRow : OpenClaim := { program := "ytkcifdblaboodaa", sum := "5c3ef88de584d0ed23bf0e29bb303f88d5e9c2a914e50700e3b556ed5dbef200", func := "sandglass/sandglasslaw14.CellOne", spec := "cellOne", unfollowed := true, recurses := true, apart := false }
def CellOneSaid : Prop := cellOneRow.holds Try.pinned (OpenSpec.ofChange cellOneSpec)

/-- ITS FALSE NEIGHBOUR: 'it returns false'. Refute it at one input. -/
def cellOneWrong : ChangeSpec := { name := "cellOne", fn := fun _ => fun
  | [d1, d2, d3] => { results := [.lit (.bool false)], args := [d1, d2, d3] }
  | _ => none }
def CellOneWrongFalsely : Prop := cellOneRow.holds Try.pinned (OpenSpec.ofChange cellOneWrong)

/-- 'sandglasslaw14.CellGoes': WHATEVER THE INPUT: true; the input reads as it did. -/
def cellGoesSpec : ChangeSpec := { name := "cellGoes", fn := fun _ => fun
  | [d1, d2, d3] => { results := [.lit (.bool true)], args := [d1, d2, d3] }
  | _ => none }
def cellGoesRow : OpenClaim := { program := "ytkcifdblaboodaa", sum := "5c3ef88de584d0ed23bf0e29bb303f88d5e9c2a914e50700e3b556ed5dbef200", func := "sandglass/sandglasslaw14.CellGoes", spec := "cellGoes", unfollowed := true, recurses := true, apart := false }
def CellGoesSaid : Prop := cellGoesRow.holds Try.pinned (OpenSpec.ofChange cellGoesSpec)

/-- ITS FALSE NEIGHBOUR: 'it returns false'. Refute it at one input. -/
def cellGoesWrong : ChangeSpec := { name := "cellGoes", fn := fun _ => fun
  | [d1, d2, d3] => { results := [.lit (.bool false)], args := [d1, d2, d3] }
  | _ => none }
def CellGoesWrongFalsely : Prop := cellGoesRow.holds Try.pinned (OpenSpec.ofChange cellGoesWrong)

/- THE SECOND FORM. 'bulk': how many values and letters a reading holds, each counted each time it is reached (what is shared counts as often as it is met; a slice's spare places count too). A statement '..UptoSaid' is the law's where the arguments, and the package variables that the reading takes, are together of bulk at most 1048576: NARROWER than '..Said'. Prove '..Said' where nothing that the law and all that it calls make is longer than what came in: it says more and counts as full. Else prove '..UptoSaid'. A law counts once. -/
mutual
def uptoBulk {H : Type} : DataW H → Nat
  | .lit (.string bytes) => bytes.length + 1
  | .lit _ => 1
  | .nil => 1
  | .ptr d => uptoBulk d + 1
  | .slice elems spare => uptoBulkAll elems + uptoBulkAll spare + 1
  | .agg parts => uptoBulkAll parts + 1
  | .iface _ d => uptoBulk d + 1
  | .map entries => uptoBulkEntries entries + 1
  | .held _ => 1
def uptoBulkAll {H : Type} : List (DataW H) → Nat
  | [] => 0
  | d :: r => uptoBulk d + uptoBulkAll r
def uptoBulkEntries {H : Type} : List (Lit × DataW H) → Nat
  | [] => 0
  | x :: r => uptoBulkEntry x + uptoBulkEntries r
def uptoBulkEntry {H : Type} : Lit × DataW H → Nat
  | (.string bytes, d) => bytes.length + uptoBulk d + 1
  | (_, d) => uptoBulk d + 1
 end
def uptoSmall : (H : Type) → List (DataW H) → Bool := fun _ ds => decide (uptoBulkAll ds ≤ 1048576)
def OpenSpec.upto (s : _root_.Go.ChangeSpec) : _root_.Go.OpenSpec := { _root_.Go.OpenSpec.ofChange s with cond := some uptoSmall }

/-- 'sandglasslaw15.HistSame', WHERE WHAT IT READS IS OF BULK AT MOST 1048576: true; the input reads as it did. -/
def histSameUptoRow : OpenClaim := { program := "ytkcifdblaboodaa", sum := "5c3ef88de584d0ed23bf0e29bb303f88d5e9c2a914e50700e3b556ed5dbef200", func := "sandglass/sandglasslaw15.HistSame", spec := "histSame", unfollowed := true, recurses := true, apart := false, narrowed := true }
def HistSameUptoSaid : Prop := histSameUptoRow.holds Try.pinned (OpenSpec.upto histSameSpec)

/-- 'sandglasslaw14.CellBack', WHERE WHAT IT READS IS OF BULK AT MOST 1048576: true; the input reads as it did. -/
def cellBackUptoRow : OpenClaim := { program := "ytkcifdblaboodaa", sum := "5c3ef88de584d0ed23bf0e29bb303f88d5e9c2a914e50700e3b556ed5dbef200", func := "sandglass/sandglasslaw14.CellBack", spec := "cellBack", unfollowed := true, recurses := true, apart := false, narrowed := true }
def CellBackUptoSaid : Prop := cellBackUptoRow.holds Try.pinned (OpenSpec.upto cellBackSpec)

/-- 'sandglasslaw14.CellNeutral', WHERE WHAT IT READS IS OF BULK AT MOST 1048576: true; the input reads as it did. -/
def cellNeutralUptoRow : OpenClaim := { program := "ytkcifdblaboodaa", sum := "5c3ef88de584d0ed23bf0e29bb303f88d5e9c2a914e50700e3b556ed5dbef200", func := "sandglass/sandglasslaw14.CellNeutral", spec := "cellNeutral", unfollowed := true, recurses := true, apart := false, narrowed := true }
def CellNeutralUptoSaid : Prop := cellNeutralUptoRow.holds Try.pinned (OpenSpec.upto cellNeutralSpec)

/-- 'sandglasslaw14.CellLater', WHERE WHAT IT READS IS OF BULK AT MOST 1048576: true; the input reads as it did. -/
def cellLaterUptoRow : OpenClaim := { program := "ytkcifdblaboodaa", sum := "5c3ef88de584d0ed23bf0e29bb303f88d5e9c2a914e50700e3b556ed5dbef200", func := "sandglass/sandglasslaw14.CellLater", spec := "cellLater", unfollowed := true, recurses := true, apart := false, narrowed := true }
def CellLaterUptoSaid : Prop := cellLaterUptoRow.holds Try.pinned (OpenSpec.upto cellLaterSpec)

/-- 'sandglasslaw14.CellOne', WHERE WHAT IT READS IS OF BULK AT MOST 1048576: true; the input reads as it did. -/
def cellOneUptoRow : OpenClaim := { program := "ytkcifdblaboodaa", sum := "5c3ef88de584d0ed23bf0e29bb303f88d5e9c2a914e50700e3b556ed5dbef200", func := "sandglass/sandglasslaw14.CellOne", spec := "cellOne", unfollowed := true, recurses := true, apart := false, narrowed := true }
def CellOneUptoSaid : Prop := cellOneUptoRow.holds Try.pinned (OpenSpec.upto cellOneSpec)

/-- 'sandglasslaw14.CellGoes', WHERE WHAT IT READS IS OF BULK AT MOST 1048576: true; the input reads as it did. -/
def cellGoesUptoRow : OpenClaim := { program := "ytkcifdblaboodaa", sum := "5c3ef88de584d0ed23bf0e29bb303f88d5e9c2a914e50700e3b556ed5dbef200", func := "sandglass/sandglasslaw14.CellGoes", spec := "cellGoes", unfollowed := true, recurses := true, apart := false, narrowed := true }
def CellGoesUptoSaid : Prop := cellGoesUptoRow.holds Try.pinned (OpenSpec.upto cellGoesSpec)

end Rows
end Go.Proofs.Ytkcifdblaboodaa
