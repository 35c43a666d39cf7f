/-
  No cell of these rows narrows 'for every input' (looked for: loops, veiled, ifaces, maps, wideKeys, modest, calm, conditions, laid).
  DERIVED. THE GIVEN ROWS OF THIS SEAT. 6 by the template 'for every input the law returns true; each argument reads behind the call as it read before'; 0 by the template 'total and deterministic' (their statements: YtmpieeaeghdieaaTotals.lean).
  GIVEN WITH THE SEED: the statements are not yours to turn. If you find one false, say at which input.
  Laid BY PROGRAM, IN A SANDBOX (cutbox-rows.mjs): the forced cells as the released guide's own fill.sh prints them over the translation 4bc4f904bb40996c… (all of the seat's roots in one cut). By AI agents, Wed Nov 11 2026. No macro, syntax, notation, axiom, sorry.
-/
import Derived.Test.YtmpieeaeghdieaaChecked
import GoSem.Claim
import GoSem.ClaimJoined
import GoSem.ClaimMapViews
import Derived.JoinedTies
import Derived.KernelRfl
namespace Go.Proofs.Ytmpieeaeghdieaa
/- THE CELL 'sum', in the pinned program and in every row, IS THE sha256 OF THE DUMP (.gsa) THAT YtmpieeaeghdieaaProg.lean LOADS. Nothing in Lean hashes anything: it is a label: what it is worth is what the hold of that sum in a sandbox is worth. -/
noncomputable def Try.pinned : Pinned := { name := "ytmpieeaeghdieaa", sum := "4bc4f904bb40996c8e348ad2780dae8701a9e2eead0018e9a69669dc84a36951", checked := Try.checked }
namespace Rows
def none {H : Type} : Left H := { results := [], args := [] }

/-- 'graftlaw8.StatesNames': WHATEVER THE INPUT: true; the input reads as it did. -/
def statesNamesSpec : ChangeSpec := { name := "statesNames", fn := fun _ => fun
  | [] => { results := [.lit (.bool true)], args := [] }
  | _ => none }
def statesNamesRow : OpenClaim := { program := "ytmpieeaeghdieaa", sum := "4bc4f904bb40996c8e348ad2780dae8701a9e2eead0018e9a69669dc84a36951", func := "graft/graftlaw8.StatesNames", spec := "statesNames", apart := false }
def StatesNamesSaid : Prop := statesNamesRow.holds Try.pinned (OpenSpec.ofChange statesNamesSpec)

/-- ITS FALSE NEIGHBOUR: 'it returns false'. Refute it at one input. -/
def statesNamesWrong : ChangeSpec := { name := "statesNames", fn := fun _ => fun
  | [] => { results := [.lit (.bool false)], args := [] }
  | _ => none }
def StatesNamesWrongFalsely : Prop := statesNamesRow.holds Try.pinned (OpenSpec.ofChange statesNamesWrong)

/-- 'graftlaw9.TableNames': WHATEVER THE INPUT: true; the input reads as it did. -/
def tableNamesSpec : ChangeSpec := { name := "tableNames", fn := fun _ => fun
  | [] => { results := [.lit (.bool true)], args := [] }
  | _ => none }
def tableNamesRow : OpenClaim := { program := "ytmpieeaeghdieaa", sum := "4bc4f904bb40996c8e348ad2780dae8701a9e2eead0018e9a69669dc84a36951", func := "graft/graftlaw9.TableNames", spec := "tableNames", apart := false }
def TableNamesSaid : Prop := tableNamesRow.holds Try.pinned (OpenSpec.ofChange tableNamesSpec)

/-- ITS FALSE NEIGHBOUR: 'it returns false'. Refute it at one input. -/
def tableNamesWrong : ChangeSpec := { name := "tableNames", fn := fun _ => fun
  | [] => { results := [.lit (.bool false)], args := [] }
  | _ => none }
def TableNamesWrongFalsely : Prop := tableNamesRow.holds Try.pinned (OpenSpec.ofChange tableNamesWrong)

/-- 'graftlaw11.ParseNames': WHATEVER THE INPUT: true; the input reads as it did. -/
def parseNamesSpec : ChangeSpec := { name := "parseNames", fn := fun _ => fun
  | [] => { results := [.lit (.bool true)], args := [] }
  | _ => none }
def parseNamesRow : OpenClaim := { program := "ytmpieeaeghdieaa", sum := "4bc4f904bb40996c8e348ad2780dae8701a9e2eead0018e9a69669dc84a36951", func := "graft/graftlaw11.ParseNames", spec := "parseNames", apart := false }
def ParseNamesSaid : Prop := parseNamesRow.holds Try.pinned (OpenSpec.ofChange parseNamesSpec)

/-- ITS FALSE NEIGHBOUR: 'it returns false'. Refute it at one input. -/
def parseNamesWrong : ChangeSpec := { name := "parseNames", fn := fun _ => fun
  | [] => { results := [.lit (.bool false)], args := [] }
  | _ => none }
def ParseNamesWrongFalsely : Prop := parseNamesRow.holds Try.pinned (OpenSpec.ofChange parseNamesWrong)

/-- 'graftlaw12.ReuseNames': WHATEVER THE INPUT: true; the input reads as it did. -/
def reuseNamesSpec : ChangeSpec := { name := "reuseNames", fn := fun _ => fun
  | [] => { results := [.lit (.bool true)], args := [] }
  | _ => none }
def reuseNamesRow : OpenClaim := { program := "ytmpieeaeghdieaa", sum := "4bc4f904bb40996c8e348ad2780dae8701a9e2eead0018e9a69669dc84a36951", func := "graft/graftlaw12.ReuseNames", spec := "reuseNames", apart := false }
def ReuseNamesSaid : Prop := reuseNamesRow.holds Try.pinned (OpenSpec.ofChange reuseNamesSpec)

/-- ITS FALSE NEIGHBOUR: 'it returns false'. Refute it at one input. -/
def reuseNamesWrong : ChangeSpec := { name := "reuseNames", fn := fun _ => fun
  | [] => { results := [.lit (.bool false)], args := [] }
  | _ => none }
def ReuseNamesWrongFalsely : Prop := reuseNamesRow.holds Try.pinned (OpenSpec.ofChange reuseNamesWrong)

/-- 'graftlaw15.DeltaNames': WHATEVER THE INPUT: true; the input reads as it did. -/
def deltaNamesSpec : ChangeSpec := { name := "deltaNames", fn := fun _ => fun
  | [] => { results := [.lit (.bool true)], args := [] }
  | _ => none }
def deltaNamesRow : OpenClaim := { program := "ytmpieeaeghdieaa", sum := "4bc4f904bb40996c8e348ad2780dae8701a9e2eead0018e9a69669dc84a36951", func := "graft/graftlaw15.DeltaNames", spec := "deltaNames", apart := false }
def DeltaNamesSaid : Prop := deltaNamesRow.holds Try.pinned (OpenSpec.ofChange deltaNamesSpec)

/-- ITS FALSE NEIGHBOUR: 'it returns false'. Refute it at one input. -/
def deltaNamesWrong : ChangeSpec := { name := "deltaNames", fn := fun _ => fun
  | [] => { results := [.lit (.bool false)], args := [] }
  | _ => none }
def DeltaNamesWrongFalsely : Prop := deltaNamesRow.holds Try.pinned (OpenSpec.ofChange deltaNamesWrong)

/-- 'graftlaw14.QueryNames': WHATEVER THE INPUT: true; the input reads as it did. -/
def queryNamesSpec : ChangeSpec := { name := "queryNames", fn := fun _ => fun
  | [] => { results := [.lit (.bool true)], args := [] }
  | _ => none }
def queryNamesRow : OpenClaim := { program := "ytmpieeaeghdieaa", sum := "4bc4f904bb40996c8e348ad2780dae8701a9e2eead0018e9a69669dc84a36951", func := "graft/graftlaw14.QueryNames", spec := "queryNames", apart := false }
def QueryNamesSaid : Prop := queryNamesRow.holds Try.pinned (OpenSpec.ofChange queryNamesSpec)

/-- ITS FALSE NEIGHBOUR: 'it returns false'. Refute it at one input. -/
def queryNamesWrong : ChangeSpec := { name := "queryNames", fn := fun _ => fun
  | [] => { results := [.lit (.bool false)], args := [] }
  | _ => none }
def QueryNamesWrongFalsely : Prop := queryNamesRow.holds Try.pinned (OpenSpec.ofChange queryNamesWrong)

/- THE SECOND FORM. 'bulk': how many values and letters a reading holds, each counted each time it is reached (what is shared counts as often as it is met; a slice's spare places count too). A statement '..UptoSaid' is the law's where the arguments, and the package variables that the reading takes, are together of bulk at most 1048576: NARROWER than '..Said'. Prove '..Said' where nothing that the law and all that it calls make is longer than what came in: it says more and counts as full. Else prove '..UptoSaid'. A law counts once. -/
mutual
def uptoBulk {H : Type} : DataW H → Nat
  | .lit (.string bytes) => bytes.length + 1
  | .lit _ => 1
  | .nil => 1
  | .ptr d => uptoBulk d + 1
  | .slice elems spare => uptoBulkAll elems + uptoBulkAll spare + 1
  | .agg parts => uptoBulkAll parts + 1
  | .iface _ d => uptoBulk d + 1
  | .map entries => uptoBulkEntries entries + 1
  | .held _ => 1
def uptoBulkAll {H : Type} : List (DataW H) → Nat
  | [] => 0
  | d :: r => uptoBulk d + uptoBulkAll r
def uptoBulkEntries {H : Type} : List (Lit × DataW H) → Nat
  | [] => 0
  | x :: r => uptoBulkEntry x + uptoBulkEntries r
def uptoBulkEntry {H : Type} : Lit × DataW H → Nat
  | (.string bytes, d) => bytes.length + uptoBulk d + 1
  | (_, d) => uptoBulk d + 1
 end
def uptoSmall : (H : Type) → List (DataW H) → Bool := fun _ ds => decide (uptoBulkAll ds ≤ 1048576)
def OpenSpec.upto (s : _root_.Go.ChangeSpec) : _root_.Go.OpenSpec := { _root_.Go.OpenSpec.ofChange s with cond := some uptoSmall }

/-- 'graftlaw8.StatesNames', WHERE WHAT IT READS IS OF BULK AT MOST 1048576: true; the input reads as it did. -/
def statesNamesUptoRow : OpenClaim := { program := "ytmpieeaeghdieaa", sum := "4bc4f904bb40996c8e348ad2780dae8701a9e2eead0018e9a69669dc84a36951", func := "graft/graftlaw8.StatesNames", spec := "statesNames", apart := false, narrowed := true }
def StatesNamesUptoSaid : Prop := statesNamesUptoRow.holds Try.pinned (OpenSpec.upto statesNamesSpec)

/-- 'graftlaw9.TableNames', WHERE WHAT IT READS IS OF BULK AT MOST 1048576: true; the input reads as it did. -/
def tableNamesUptoRow : OpenClaim := { program := "ytmpieeaeghdieaa", sum := "4bc4f904bb40996c8e348ad2780dae8701a9e2eead0018e9a69669dc84a36951", func := "graft/graftlaw9.TableNames", spec := "tableNames", apart := false, narrowed := true }
def TableNamesUptoSaid : Prop := tableNamesUptoRow.holds Try.pinned (OpenSpec.upto tableNamesSpec)

/-- 'graftlaw11.ParseNames', WHERE WHAT IT READS IS OF BULK AT MOST 1048576: true; the input reads as it did. -/
def parseNamesUptoRow : OpenClaim := { program := "ytmpieeaeghdieaa", sum := "4bc4f904bb40996c8e348ad2780dae8701a9e2eead0018e9a69669dc84a36951", func := "graft/graftlaw11.ParseNames", spec := "parseNames", apart := false, narrowed := true }
def ParseNamesUptoSaid : Prop := parseNamesUptoRow.holds Try.pinned (OpenSpec.upto parseNamesSpec)

/-- 'graftlaw12.ReuseNames', WHERE WHAT IT READS IS OF BULK AT MOST 1048576: true; the input reads as it did. -/
def reuseNamesUptoRow : OpenClaim := { program := "ytmpieeaeghdieaa", sum := "4bc4f904bb40996c8e348ad2780dae8701a9e2eead0018e9a69669dc84a36951", func := "graft/graftlaw12.ReuseNames", spec := "reuseNames", apart := false, narrowed := true }
def ReuseNamesUptoSaid : Prop := reuseNamesUptoRow.holds Try.pinned (OpenSpec.upto reuseNamesSpec)

/-- 'graftlaw15.DeltaNames', WHERE WHAT IT READS IS OF BULK AT MOST 1048576: true; the input reads as it did. -/
def deltaNamesUptoRow : OpenClaim := { program := "ytmpieeaeghdieaa", sum := "4bc4f904bb40996c8e348ad2780dae8701a9e2eead0018e9a69669dc84a36951", func := "graft/graftlaw15.DeltaNames", spec := "deltaNames", apart := false, narrowed := true }
def DeltaNamesUptoSaid : Prop := deltaNamesUptoRow.holds Try.pinned (OpenSpec.upto deltaNamesSpec)

/-- 'graftlaw14.QueryNames', WHERE WHAT IT READS IS OF BULK AT MOST 1048576: true; the input reads as it did. -/
def queryNamesUptoRow : OpenClaim := { program := "ytmpieeaeghdieaa", sum := "4bc4f904bb40996c8e348ad2780dae8701a9e2eead0018e9a69669dc84a36951", func := "graft/graftlaw14.QueryNames", spec := "queryNames", apart := false, narrowed := true }
def QueryNamesUptoSaid : Prop := queryNamesUptoRow.holds Try.pinned (OpenSpec.upto queryNamesSpec)

end Rows
end Go.Proofs.Ytmpieeaeghdieaa
