/-
  No cell of these rows narrows 'for every input' (looked for: loops, veiled, ifaces, maps, wideKeys, modest, calm, conditions, laid).
  DERIVED. THE GIVEN ROWS OF THIS SEAT. 5 by the template 'for every input the law returns true; each argument reads behind the call as it read before'; 0 by the template 'total and deterministic' (their statements: YtafcenlbllmahaaTotals.lean).
  GIVEN WITH THE SEED: the statements are not yours to turn. If you find one false, say at which input.
  Laid BY PROGRAM, IN A SANDBOX (cutbox-rows.mjs): the forced cells as the released guide's own fill.sh prints them over the translation 2348c487733f074e… (all of the seat's roots in one cut). By AI agents, Wed Nov 11 2026. No macro, syntax, notation, axiom, sorry.
-/
import Derived.Test.YtafcenlbllmahaaChecked
import GoSem.Claim
import GoSem.ClaimJoined
import GoSem.ClaimMapViews
import Derived.JoinedTies
import Derived.KernelRfl
namespace Go.Proofs.Ytafcenlbllmahaa
/- THE CELL 'sum', in the pinned program and in every row, IS THE sha256 OF THE DUMP (.gsa) THAT YtafcenlbllmahaaProg.lean LOADS. Nothing in Lean hashes anything: it is a label: what it is worth is what the hold of that sum in a sandbox is worth. -/
noncomputable def Try.pinned : Pinned := { name := "ytafcenlbllmahaa", sum := "2348c487733f074e1b0564e6ac58f3b30353bcba8930c772fa12a221967f22f7", checked := Try.checked }
namespace Rows
def none {H : Type} : Left H := { results := [], args := [] }

/-- 'sandglasslaw08.TimerScripts': WHATEVER THE INPUT: true; the input reads as it did. -/
def timerScriptsSpec : ChangeSpec := { name := "timerScripts", fn := fun _ => fun
  | [d1, d2] => { results := [.lit (.bool true)], args := [d1, d2] }
  | _ => none }
def timerScriptsRow : OpenClaim := { program := "ytafcenlbllmahaa", sum := "2348c487733f074e1b0564e6ac58f3b30353bcba8930c772fa12a221967f22f7", func := "sandglass/sandglasslaw08.TimerScripts", spec := "timerScripts", unfollowed := true, recurses := true, apart := false }
def TimerScriptsSaid : Prop := timerScriptsRow.holds Try.pinned (OpenSpec.ofChange timerScriptsSpec)

/-- ITS FALSE NEIGHBOUR: 'it returns false'. Refute it at one input. -/
def timerScriptsWrong : ChangeSpec := { name := "timerScripts", fn := fun _ => fun
  | [d1, d2] => { results := [.lit (.bool false)], args := [d1, d2] }
  | _ => none }
def TimerScriptsWrongFalsely : Prop := timerScriptsRow.holds Try.pinned (OpenSpec.ofChange timerScriptsWrong)

/-- 'sandglasslaw08.TimerJumps': WHATEVER THE INPUT: true; the input reads as it did. -/
def timerJumpsSpec : ChangeSpec := { name := "timerJumps", fn := fun _ => fun
  | [d1, d2, d3] => { results := [.lit (.bool true)], args := [d1, d2, d3] }
  | _ => none }
def timerJumpsRow : OpenClaim := { program := "ytafcenlbllmahaa", sum := "2348c487733f074e1b0564e6ac58f3b30353bcba8930c772fa12a221967f22f7", func := "sandglass/sandglasslaw08.TimerJumps", spec := "timerJumps", unfollowed := true, recurses := true, apart := false }
def TimerJumpsSaid : Prop := timerJumpsRow.holds Try.pinned (OpenSpec.ofChange timerJumpsSpec)

/-- ITS FALSE NEIGHBOUR: 'it returns false'. Refute it at one input. -/
def timerJumpsWrong : ChangeSpec := { name := "timerJumps", fn := fun _ => fun
  | [d1, d2, d3] => { results := [.lit (.bool false)], args := [d1, d2, d3] }
  | _ => none }
def TimerJumpsWrongFalsely : Prop := timerJumpsRow.holds Try.pinned (OpenSpec.ofChange timerJumpsWrong)

/-- 'sandglasslaw08.TimerOnce': WHATEVER THE INPUT: true; the input reads as it did. -/
def timerOnceSpec : ChangeSpec := { name := "timerOnce", fn := fun _ => fun
  | [d1, d2, d3] => { results := [.lit (.bool true)], args := [d1, d2, d3] }
  | _ => none }
def timerOnceRow : OpenClaim := { program := "ytafcenlbllmahaa", sum := "2348c487733f074e1b0564e6ac58f3b30353bcba8930c772fa12a221967f22f7", func := "sandglass/sandglasslaw08.TimerOnce", spec := "timerOnce", unfollowed := true, recurses := true, apart := false }
def TimerOnceSaid : Prop := timerOnceRow.holds Try.pinned (OpenSpec.ofChange timerOnceSpec)

/-- ITS FALSE NEIGHBOUR: 'it returns false'. Refute it at one input. -/
def timerOnceWrong : ChangeSpec := { name := "timerOnce", fn := fun _ => fun
  | [d1, d2, d3] => { results := [.lit (.bool false)], args := [d1, d2, d3] }
  | _ => none }
def TimerOnceWrongFalsely : Prop := timerOnceRow.holds Try.pinned (OpenSpec.ofChange timerOnceWrong)

/-- 'sandglasslaw08.TimerNil': WHATEVER THE INPUT: true; the input reads as it did. -/
def timerNilSpec : ChangeSpec := { name := "timerNil", fn := fun _ => fun
  | [d1, d2] => { results := [.lit (.bool true)], args := [d1, d2] }
  | _ => none }
def timerNilRow : OpenClaim := { program := "ytafcenlbllmahaa", sum := "2348c487733f074e1b0564e6ac58f3b30353bcba8930c772fa12a221967f22f7", func := "sandglass/sandglasslaw08.TimerNil", spec := "timerNil", unfollowed := true, recurses := true, apart := false }
def TimerNilSaid : Prop := timerNilRow.holds Try.pinned (OpenSpec.ofChange timerNilSpec)

/-- ITS FALSE NEIGHBOUR: 'it returns false'. Refute it at one input. -/
def timerNilWrong : ChangeSpec := { name := "timerNil", fn := fun _ => fun
  | [d1, d2] => { results := [.lit (.bool false)], args := [d1, d2] }
  | _ => none }
def TimerNilWrongFalsely : Prop := timerNilRow.holds Try.pinned (OpenSpec.ofChange timerNilWrong)

/-- 'sandglasslaw08.TimerNext': WHATEVER THE INPUT: true; the input reads as it did. -/
def timerNextSpec : ChangeSpec := { name := "timerNext", fn := fun _ => fun
  | [d1, d2] => { results := [.lit (.bool true)], args := [d1, d2] }
  | _ => none }
def timerNextRow : OpenClaim := { program := "ytafcenlbllmahaa", sum := "2348c487733f074e1b0564e6ac58f3b30353bcba8930c772fa12a221967f22f7", func := "sandglass/sandglasslaw08.TimerNext", spec := "timerNext", unfollowed := true, recurses := true, apart := false }
def TimerNextSaid : Prop := timerNextRow.holds Try.pinned (OpenSpec.ofChange timerNextSpec)

/-- ITS FALSE NEIGHBOUR: 'it returns false'. Refute it at one input. -/
def timerNextWrong : ChangeSpec := { name := "timerNext", fn := fun _ => fun
  | [d1, d2] => { results := [.lit (.bool false)], args := [d1, d2] }
  | _ => none }
def TimerNextWrongFalsely : Prop := timerNextRow.holds Try.pinned (OpenSpec.ofChange timerNextWrong)

/- THE SECOND FORM. 'bulk': how many values and letters a reading holds, each counted each time it is reached (what is shared counts as often as it is met; a slice's spare places count too). A statement '..UptoSaid' is the law's where the arguments, and the package variables that the reading takes, are together of bulk at most 1048576: NARROWER than '..Said'. Prove '..Said' where nothing that the law and all that it calls make is longer than what came in: it says more and counts as full. Else prove '..UptoSaid'. A law counts once. -/
mutual
def uptoBulk {H : Type} : DataW H → Nat
  | .lit (.string bytes) => bytes.length + 1
  | .lit _ => 1
  | .nil => 1
  | .ptr d => uptoBulk d + 1
  | .slice elems spare => uptoBulkAll elems + uptoBulkAll spare + 1
  | .agg parts => uptoBulkAll parts + 1
  | .iface _ d => uptoBulk d + 1
  | .map entries => uptoBulkEntries entries + 1
  | .held _ => 1
def uptoBulkAll {H : Type} : List (DataW H) → Nat
  | [] => 0
  | d :: r => uptoBulk d + uptoBulkAll r
def uptoBulkEntries {H : Type} : List (Lit × DataW H) → Nat
  | [] => 0
  | x :: r => uptoBulkEntry x + uptoBulkEntries r
def uptoBulkEntry {H : Type} : Lit × DataW H → Nat
  | (.string bytes, d) => bytes.length + uptoBulk d + 1
  | (_, d) => uptoBulk d + 1
 end
def uptoSmall : (H : Type) → List (DataW H) → Bool := fun _ ds => decide (uptoBulkAll ds ≤ 1048576)
def OpenSpec.upto (s : _root_.Go.ChangeSpec) : _root_.Go.OpenSpec := { _root_.Go.OpenSpec.ofChange s with cond := some uptoSmall }

/-- 'sandglasslaw08.TimerScripts', WHERE WHAT IT READS IS OF BULK AT MOST 1048576: true; the input reads as it did. -/
def timerScriptsUptoRow : OpenClaim := { program := "ytafcenlbllmahaa", sum := "2348c487733f074e1b0564e6ac58f3b30353bcba8930c772fa12a221967f22f7", func := "sandglass/sandglasslaw08.TimerScripts", spec := "timerScripts", unfollowed := true, recurses := true, apart := false, narrowed := true }
def TimerScriptsUptoSaid : Prop := timerScriptsUptoRow.holds Try.pinned (OpenSpec.upto timerScriptsSpec)

/-- 'sandglasslaw08.TimerJumps', WHERE WHAT IT READS IS OF BULK AT MOST 1048576: true; the input reads as it did. -/
def timerJumpsUptoRow : OpenClaim := { program := "ytafcenlbllmahaa", sum := "2348c487733f074e1b0564e6ac58f3b30353bcba8930c772fa12a221967f22f7", func := "sandglass/sandglasslaw08.TimerJumps", spec := "timerJumps", unfollowed := true, recurses := true, apart := false, narrowed := true }
def TimerJumpsUptoSaid : Prop := timerJumpsUptoRow.holds Try.pinned (OpenSpec.upto timerJumpsSpec)

/-- 'sandglasslaw08.TimerOnce', WHERE WHAT IT READS IS OF BULK AT MOST 1048576: true; the input reads as it did. -/
def timerOnceUptoRow : OpenClaim := { program := "ytafcenlbllmahaa", sum := "2348c487733f074e1b0564e6ac58f3b30353bcba8930c772fa12a221967f22f7", func := "sandglass/sandglasslaw08.TimerOnce", spec := "timerOnce", unfollowed := true, recurses := true, apart := false, narrowed := true }
def TimerOnceUptoSaid : Prop := timerOnceUptoRow.holds Try.pinned (OpenSpec.upto timerOnceSpec)

/-- 'sandglasslaw08.TimerNil', WHERE WHAT IT READS IS OF BULK AT MOST 1048576: true; the input reads as it did. -/
def timerNilUptoRow : OpenClaim := { program := "ytafcenlbllmahaa", sum := "2348c487733f074e1b0564e6ac58f3b30353bcba8930c772fa12a221967f22f7", func := "sandglass/sandglasslaw08.TimerNil", spec := "timerNil", unfollowed := true, recurses := true, apart := false, narrowed := true }
def TimerNilUptoSaid : Prop := timerNilUptoRow.holds Try.pinned (OpenSpec.upto timerNilSpec)

/-- 'sandglasslaw08.TimerNext', WHERE WHAT IT READS IS OF BULK AT MOST 1048576: true; the input reads as it did. -/
def timerNextUptoRow : OpenClaim := { program := "ytafcenlbllmahaa", sum := "2348c487733f074e1b0564e6ac58f3b30353bcba8930c772fa12a221967f22f7", func := "sandglass/sandglasslaw08.TimerNext", spec := "timerNext", unfollowed := true, recurses := true, apart := false, narrowed := true }
def TimerNextUptoSaid : Prop := timerNextUptoRow.holds Try.pinned (OpenSpec.upto timerNextSpec)

end Rows
end Go.Proofs.Ytafcenlbllmahaa
