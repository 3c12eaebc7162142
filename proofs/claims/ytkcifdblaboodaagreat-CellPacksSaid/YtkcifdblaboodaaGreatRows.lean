/-
  No cell of these rows narrows 'for every input' (looked for: loops, veiled, ifaces, maps, wideKeys, modest, calm, conditions, laid).
  DERIVED. THE GIVEN ROWS OF THIS SEAT. 2 by the template 'for every input the law returns true; each argument reads behind the call as it read before'; 0 by the template 'total and deterministic' (their statements: YtkcifdblaboodaaGreatTotals.lean).
  GIVEN WITH THE SEED: the statements are not yours to turn. If you find one false, say at which input.
  Laid BY PROGRAM, IN A SANDBOX (cutbox-rows.mjs): the forced cells as the released guide's own fill.sh prints them over the translation acd3dced16c2b2c9… (all of the seat's roots in one cut). By AI agents, Wed Nov 11 2026. No macro, syntax, notation, axiom, sorry.
-/
import Derived.Test.YtkcifdblaboodaaGreatChecked
import GoSem.Claim
import GoSem.ClaimJoined
import GoSem.ClaimMapViews
import Derived.JoinedTies
import Derived.KernelRfl
namespace Go.Proofs.YtkcifdblaboodaaGreat
/- THE CELL 'sum', in the pinned program and in every row, IS THE sha256 OF THE DUMP (.gsa) THAT YtkcifdblaboodaaGreatProg.lean LOADS. Nothing in Lean hashes anything: it is a label: what it is worth is what the hold of that sum in a sandbox is worth. -/
noncomputable def Tryz.pinned : Pinned := { name := "ytkcifdblaboodaagreat", sum := "acd3dced16c2b2c9d45dae661c09a15390fefcd9d0ac8100edaa1b7028e4d6e7", checked := Tryz.checked }
namespace Rows
def none {H : Type} : Left H := { results := [], args := [] }

/-- 'sandglasslaw14.CellAsks': WHATEVER THE INPUT: true; the input reads as it did. -/
def cellAsksSpec : ChangeSpec := { name := "cellAsks", fn := fun _ => fun
  | [d1, d2, d3] => { results := [.lit (.bool true)], args := [d1, d2, d3] }
  | _ => none }
def cellAsksRow : OpenClaim := { program := "ytkcifdblaboodaagreat", sum := "acd3dced16c2b2c9d45dae661c09a15390fefcd9d0ac8100edaa1b7028e4d6e7", func := "sandglass/sandglasslaw14.CellAsks", spec := "cellAsks", unfollowed := true, recurses := true, apart := false }
def CellAsksSaid : Prop := cellAsksRow.holds Tryz.pinned (OpenSpec.ofChange cellAsksSpec)

/-- ITS FALSE NEIGHBOUR: 'it returns false'. Refute it at one input. -/
def cellAsksWrong : ChangeSpec := { name := "cellAsks", fn := fun _ => fun
  | [d1, d2, d3] => { results := [.lit (.bool false)], args := [d1, d2, d3] }
  | _ => none }
def CellAsksWrongFalsely : Prop := cellAsksRow.holds Tryz.pinned (OpenSpec.ofChange cellAsksWrong)

/-- 'sandglasslaw14.CellPacks': WHATEVER THE INPUT: true; the input reads as it did. -/
def cellPacksSpec : ChangeSpec := { name := "cellPacks", fn := fun _ => fun
  | [d1, d2, d3] => { results := [.lit (.bool true)], args := [d1, d2, d3] }
  | _ => none }
def cellPacksRow : OpenClaim := { program := "ytkcifdblaboodaagreat", sum := "acd3dced16c2b2c9d45dae661c09a15390fefcd9d0ac8100edaa1b7028e4d6e7", func := "sandglass/sandglasslaw14.CellPacks", spec := "cellPacks", unfollowed := true, recurses := true, apart := false }
def CellPacksSaid : Prop := cellPacksRow.holds Tryz.pinned (OpenSpec.ofChange cellPacksSpec)

/-- ITS FALSE NEIGHBOUR: 'it returns false'. Refute it at one input. -/
def cellPacksWrong : ChangeSpec := { name := "cellPacks", fn := fun _ => fun
  | [d1, d2, d3] => { results := [.lit (.bool false)], args := [d1, d2, d3] }
  | _ => none }
def CellPacksWrongFalsely : Prop := cellPacksRow.holds Tryz.pinned (OpenSpec.ofChange cellPacksWrong)

/- THE SECOND FORM. 'bulk': how many values and letters a reading holds, each counted each time it is reached (what is shared counts as often as it is met; a slice's spare places count too). A statement '..UptoSaid' is the law's where the arguments, and the package variables that the reading takes, are together of bulk at most 1048576: NARROWER than '..Said'. Prove '..Said' where nothing that the law and all that it calls make is longer than what came in: it says more and counts as full. Else prove '..UptoSaid'. A law counts once. -/
mutual
def uptoBulk {H : Type} : DataW H → Nat
  | .lit (.string bytes) => bytes.length + 1
  | .lit _ => 1
  | .nil => 1
  | .ptr d => uptoBulk d + 1
  | .slice elems spare => uptoBulkAll elems + uptoBulkAll spare + 1
  | .agg parts => uptoBulkAll parts + 1
  | .iface _ d => uptoBulk d + 1
  | .map entries => uptoBulkEntries entries + 1
  | .held _ => 1
def uptoBulkAll {H : Type} : List (DataW H) → Nat
  | [] => 0
  | d :: r => uptoBulk d + uptoBulkAll r
def uptoBulkEntries {H : Type} : List (Lit × DataW H) → Nat
  | [] => 0
  | x :: r => uptoBulkEntry x + uptoBulkEntries r
def uptoBulkEntry {H : Type} : Lit × DataW H → Nat
  | (.string bytes, d) => bytes.length + uptoBulk d + 1
  | (_, d) => uptoBulk d + 1
 end
def uptoSmall : (H : Type) → List (DataW H) → Bool := fun _ ds => decide (uptoBulkAll ds ≤ 1048576)
def OpenSpec.upto (s : _root_.Go.ChangeSpec) : _root_.Go.OpenSpec := { _root_.Go.OpenSpec.ofChange s with cond := some uptoSmall }

/-- 'sandglasslaw14.CellAsks', WHERE WHAT IT READS IS OF BULK AT MOST 1048576: true; the input reads as it did. -/
def cellAsksUptoRow : OpenClaim := { program := "ytkcifdblaboodaagreat", sum := "acd3dced16c2b2c9d45dae661c09a15390fefcd9d0ac8100edaa1b7028e4d6e7", func := "sandglass/sandglasslaw14.CellAsks", spec := "cellAsks", unfollowed := true, recurses := true, apart := false, narrowed := true }
def CellAsksUptoSaid : Prop := cellAsksUptoRow.holds Tryz.pinned (OpenSpec.upto cellAsksSpec)

/-- 'sandglasslaw14.CellPacks', WHERE WHAT IT READS IS OF BULK AT MOST 1048576: true; the input reads as it did. -/
def cellPacksUptoRow : OpenClaim := { program := "ytkcifdblaboodaagreat", sum := "acd3dced16c2b2c9d45dae661c09a15390fefcd9d0ac8100edaa1b7028e4d6e7", func := "sandglass/sandglasslaw14.CellPacks", spec := "cellPacks", unfollowed := true, recurses := true, apart := false, narrowed := true }
def CellPacksUptoSaid : Prop := cellPacksUptoRow.holds Tryz.pinned (OpenSpec.upto cellPacksSpec)

end Rows
end Go.Proofs.YtkcifdblaboodaaGreat
