/-
  NARROWER THAN 'FOR EVERY INPUT', by the rows' own cells (each row's printed sentence says how): TableMakes: loops, laid · TableActions: loops, laid · TableRuns: loops, laid · TableReads: loops, laid · TableSteps: loops, laid · TableTurned: loops, laid · TableGotos: loops, laid · TableTold: loops, laid · TableLooks: loops, laid · TableBook: loops, laid · TableGoes: loops, laid · TableCanonical: loops, laid · TableFollows: loops, laid.
  DERIVED. THE GIVEN ROWS OF THIS SEAT. 13 by the template 'for every input the law returns true; each argument reads behind the call as it read before'; 0 by the template 'total and deterministic' (their statements: YtabfopjkgeoiiaaGreatDoorTotals.lean).
  GIVEN WITH THE SEED: the statements are not yours to turn. If you find one false, say at which input.
  Laid BY PROGRAM, IN A SANDBOX (cutbox-rows.mjs): the forced cells as the released guide's own fill.sh prints them over the translation 754a1bb3110fa016… (all of the seat's roots in one cut). By AI agents, Wed Nov 11 2026. No macro, syntax, notation, axiom, sorry.
-/
import Derived.Test.YtabfopjkgeoiiaaGreatDoorChecked
import GoSem.Claim
import GoSem.ClaimJoined
import GoSem.ClaimMapViews
import Derived.JoinedTies
import Derived.KernelRfl
namespace Go.Proofs.YtabfopjkgeoiiaaGreatDoor
/- THE CELL 'sum', in the pinned program and in every row, IS THE sha256 OF THE DUMP (.gsa) THAT YtabfopjkgeoiiaaGreatDoorProg.lean LOADS. Nothing in Lean hashes anything: it is a label: what it is worth is what the hold of that sum in a sandbox is worth. -/
noncomputable def Tryz.pinned : Pinned := { name := "ytabfopjkgeoiiaagreatdoor", sum := "754a1bb3110fa016c41683b61403bf9eb189f906973ec3fb293467ea61c56591", checked := Tryz.checked }
namespace Rows
def none {H : Type} : Left H := { results := [], args := [] }

/- WHAT THE LISTED PACKAGE-LEVEL VARIABLES READ AS WHEN THE CALL BEGINS. Each datum BY PROGRAM (the guide's laid-datum.mjs) off the statement by which the dump's own 'gosem.cut.vars' lays the variable. In a bare row this is a premise. The card (YtabfopjkgeoiiaaGreatDoorCards.lean) ties it to the program's text. -/
def laid_math_bits_deBruijn32tab {H : Type} : DataW H := .agg [.lit (.int .u8 0), .lit (.int .u8 1), .lit (.int .u8 28), .lit (.int .u8 2), .lit (.int .u8 29), .lit (.int .u8 14), .lit (.int .u8 24), .lit (.int .u8 3), .lit (.int .u8 30), .lit (.int .u8 22), .lit (.int .u8 20), .lit (.int .u8 15), .lit (.int .u8 25), .lit (.int .u8 17), .lit (.int .u8 4), .lit (.int .u8 8), .lit (.int .u8 31), .lit (.int .u8 27), .lit (.int .u8 13), .lit (.int .u8 23), .lit (.int .u8 21), .lit (.int .u8 19), .lit (.int .u8 16), .lit (.int .u8 7), .lit (.int .u8 26), .lit (.int .u8 12), .lit (.int .u8 18), .lit (.int .u8 6), .lit (.int .u8 11), .lit (.int .u8 5), .lit (.int .u8 10), .lit (.int .u8 9)]
def laid_math_bits_deBruijn64tab {H : Type} : DataW H := .agg [.lit (.int .u8 0), .lit (.int .u8 1), .lit (.int .u8 56), .lit (.int .u8 2), .lit (.int .u8 57), .lit (.int .u8 49), .lit (.int .u8 28), .lit (.int .u8 3), .lit (.int .u8 61), .lit (.int .u8 58), .lit (.int .u8 42), .lit (.int .u8 50), .lit (.int .u8 38), .lit (.int .u8 29), .lit (.int .u8 17), .lit (.int .u8 4), .lit (.int .u8 62), .lit (.int .u8 47), .lit (.int .u8 59), .lit (.int .u8 36), .lit (.int .u8 45), .lit (.int .u8 43), .lit (.int .u8 51), .lit (.int .u8 22), .lit (.int .u8 53), .lit (.int .u8 39), .lit (.int .u8 33), .lit (.int .u8 30), .lit (.int .u8 24), .lit (.int .u8 18), .lit (.int .u8 12), .lit (.int .u8 5), .lit (.int .u8 63), .lit (.int .u8 55), .lit (.int .u8 48), .lit (.int .u8 27), .lit (.int .u8 60), .lit (.int .u8 41), .lit (.int .u8 37), .lit (.int .u8 16), .lit (.int .u8 46), .lit (.int .u8 35), .lit (.int .u8 44), .lit (.int .u8 21), .lit (.int .u8 52), .lit (.int .u8 32), .lit (.int .u8 23), .lit (.int .u8 11), .lit (.int .u8 54), .lit (.int .u8 26), .lit (.int .u8 40), .lit (.int .u8 15), .lit (.int .u8 34), .lit (.int .u8 20), .lit (.int .u8 31), .lit (.int .u8 10), .lit (.int .u8 25), .lit (.int .u8 14), .lit (.int .u8 19), .lit (.int .u8 9), .lit (.int .u8 13), .lit (.int .u8 8), .lit (.int .u8 7), .lit (.int .u8 6)]
def laid_internal_strconv_uint64pow10 {H : Type} : DataW H := .agg [.lit (.int .u64 1), .lit (.int .u64 10), .lit (.int .u64 100), .lit (.int .u64 1000), .lit (.int .u64 10000), .lit (.int .u64 100000), .lit (.int .u64 1000000), .lit (.int .u64 10000000), .lit (.int .u64 100000000), .lit (.int .u64 1000000000), .lit (.int .u64 10000000000), .lit (.int .u64 100000000000), .lit (.int .u64 1000000000000), .lit (.int .u64 10000000000000), .lit (.int .u64 100000000000000), .lit (.int .u64 1000000000000000), .lit (.int .u64 10000000000000000), .lit (.int .u64 100000000000000000), .lit (.int .u64 1000000000000000000), .lit (.int .u64 10000000000000000000)]

/-- 'graftlaw9.TableMakes': WHATEVER THE INPUT: true; the input reads as it did. -/
def tableMakesSpec : ChangeSpec := { name := "tableMakes", fn := fun _ => fun
  | [d] => { results := [.lit (.bool true)], args := [d] }
  | _ => none }
def tableMakesRow : OpenClaim := { program := "ytabfopjkgeoiiaagreatdoor", sum := "754a1bb3110fa016c41683b61403bf9eb189f906973ec3fb293467ea61c56591", func := "graft/graftlaw9.TableMakes", spec := "tableMakes", inPlace := ["internal/abi.NoEscape"], unfollowed := true, recurses := true, named := ["internal/strconv.uint64pow10", "math/bits.deBruijn32tab", "math/bits.deBruijn64tab"], loops := true, plainKeys := false, apart := false, laid := [("math/bits.deBruijn32tab", laid_math_bits_deBruijn32tab), ("math/bits.deBruijn64tab", laid_math_bits_deBruijn64tab), ("internal/strconv.uint64pow10", laid_internal_strconv_uint64pow10)] }
def TableMakesSaid : Prop := tableMakesRow.holds Tryz.pinned (OpenSpec.ofChange tableMakesSpec)

/-- ITS FALSE NEIGHBOUR: 'it returns false'. Refute it at one input. -/
def tableMakesWrong : ChangeSpec := { name := "tableMakes", fn := fun _ => fun
  | [d] => { results := [.lit (.bool false)], args := [d] }
  | _ => none }
def TableMakesWrongFalsely : Prop := tableMakesRow.holds Tryz.pinned (OpenSpec.ofChange tableMakesWrong)

/-- 'graftlaw9.TableActions': WHATEVER THE INPUT: true; the input reads as it did. -/
def tableActionsSpec : ChangeSpec := { name := "tableActions", fn := fun _ => fun
  | [d] => { results := [.lit (.bool true)], args := [d] }
  | _ => none }
def tableActionsRow : OpenClaim := { program := "ytabfopjkgeoiiaagreatdoor", sum := "754a1bb3110fa016c41683b61403bf9eb189f906973ec3fb293467ea61c56591", func := "graft/graftlaw9.TableActions", spec := "tableActions", inPlace := ["internal/abi.NoEscape"], unfollowed := true, recurses := true, named := ["internal/strconv.uint64pow10", "math/bits.deBruijn32tab", "math/bits.deBruijn64tab"], loops := true, plainKeys := false, apart := false, laid := [("math/bits.deBruijn32tab", laid_math_bits_deBruijn32tab), ("math/bits.deBruijn64tab", laid_math_bits_deBruijn64tab), ("internal/strconv.uint64pow10", laid_internal_strconv_uint64pow10)] }
def TableActionsSaid : Prop := tableActionsRow.holds Tryz.pinned (OpenSpec.ofChange tableActionsSpec)

/-- ITS FALSE NEIGHBOUR: 'it returns false'. Refute it at one input. -/
def tableActionsWrong : ChangeSpec := { name := "tableActions", fn := fun _ => fun
  | [d] => { results := [.lit (.bool false)], args := [d] }
  | _ => none }
def TableActionsWrongFalsely : Prop := tableActionsRow.holds Tryz.pinned (OpenSpec.ofChange tableActionsWrong)

/-- 'graftlaw9.TableRuns': WHATEVER THE INPUT: true; the input reads as it did. -/
def tableRunsSpec : ChangeSpec := { name := "tableRuns", fn := fun _ => fun
  | [d1, d2, d3] => { results := [.lit (.bool true)], args := [d1, d2, d3] }
  | _ => none }
def tableRunsRow : OpenClaim := { program := "ytabfopjkgeoiiaagreatdoor", sum := "754a1bb3110fa016c41683b61403bf9eb189f906973ec3fb293467ea61c56591", func := "graft/graftlaw9.TableRuns", spec := "tableRuns", inPlace := ["internal/abi.NoEscape"], unfollowed := true, recurses := true, named := ["internal/strconv.uint64pow10", "math/bits.deBruijn32tab", "math/bits.deBruijn64tab"], loops := true, plainKeys := false, apart := false, laid := [("math/bits.deBruijn32tab", laid_math_bits_deBruijn32tab), ("math/bits.deBruijn64tab", laid_math_bits_deBruijn64tab), ("internal/strconv.uint64pow10", laid_internal_strconv_uint64pow10)] }
def TableRunsSaid : Prop := tableRunsRow.holds Tryz.pinned (OpenSpec.ofChange tableRunsSpec)

/-- ITS FALSE NEIGHBOUR: 'it returns false'. Refute it at one input. -/
def tableRunsWrong : ChangeSpec := { name := "tableRuns", fn := fun _ => fun
  | [d1, d2, d3] => { results := [.lit (.bool false)], args := [d1, d2, d3] }
  | _ => none }
def TableRunsWrongFalsely : Prop := tableRunsRow.holds Tryz.pinned (OpenSpec.ofChange tableRunsWrong)

/-- 'graftlaw9.TableReads': WHATEVER THE INPUT: true; the input reads as it did. -/
def tableReadsSpec : ChangeSpec := { name := "tableReads", fn := fun _ => fun
  | [d1, d2, d3] => { results := [.lit (.bool true)], args := [d1, d2, d3] }
  | _ => none }
def tableReadsRow : OpenClaim := { program := "ytabfopjkgeoiiaagreatdoor", sum := "754a1bb3110fa016c41683b61403bf9eb189f906973ec3fb293467ea61c56591", func := "graft/graftlaw9.TableReads", spec := "tableReads", inPlace := ["internal/abi.NoEscape"], unfollowed := true, recurses := true, named := ["internal/strconv.uint64pow10", "math/bits.deBruijn32tab", "math/bits.deBruijn64tab"], loops := true, plainKeys := false, apart := false, laid := [("math/bits.deBruijn32tab", laid_math_bits_deBruijn32tab), ("math/bits.deBruijn64tab", laid_math_bits_deBruijn64tab), ("internal/strconv.uint64pow10", laid_internal_strconv_uint64pow10)] }
def TableReadsSaid : Prop := tableReadsRow.holds Tryz.pinned (OpenSpec.ofChange tableReadsSpec)

/-- ITS FALSE NEIGHBOUR: 'it returns false'. Refute it at one input. -/
def tableReadsWrong : ChangeSpec := { name := "tableReads", fn := fun _ => fun
  | [d1, d2, d3] => { results := [.lit (.bool false)], args := [d1, d2, d3] }
  | _ => none }
def TableReadsWrongFalsely : Prop := tableReadsRow.holds Tryz.pinned (OpenSpec.ofChange tableReadsWrong)

/-- 'graftlaw9.TableSteps': WHATEVER THE INPUT: true; the input reads as it did. -/
def tableStepsSpec : ChangeSpec := { name := "tableSteps", fn := fun _ => fun
  | [d1, d2] => { results := [.lit (.bool true)], args := [d1, d2] }
  | _ => none }
def tableStepsRow : OpenClaim := { program := "ytabfopjkgeoiiaagreatdoor", sum := "754a1bb3110fa016c41683b61403bf9eb189f906973ec3fb293467ea61c56591", func := "graft/graftlaw9.TableSteps", spec := "tableSteps", inPlace := ["internal/abi.NoEscape"], unfollowed := true, recurses := true, named := ["internal/strconv.uint64pow10", "math/bits.deBruijn32tab", "math/bits.deBruijn64tab"], loops := true, plainKeys := false, apart := false, laid := [("math/bits.deBruijn32tab", laid_math_bits_deBruijn32tab), ("math/bits.deBruijn64tab", laid_math_bits_deBruijn64tab), ("internal/strconv.uint64pow10", laid_internal_strconv_uint64pow10)] }
def TableStepsSaid : Prop := tableStepsRow.holds Tryz.pinned (OpenSpec.ofChange tableStepsSpec)

/-- ITS FALSE NEIGHBOUR: 'it returns false'. Refute it at one input. -/
def tableStepsWrong : ChangeSpec := { name := "tableSteps", fn := fun _ => fun
  | [d1, d2] => { results := [.lit (.bool false)], args := [d1, d2] }
  | _ => none }
def TableStepsWrongFalsely : Prop := tableStepsRow.holds Tryz.pinned (OpenSpec.ofChange tableStepsWrong)

/-- 'graftlaw9.TableTurned': WHATEVER THE INPUT: true; the input reads as it did. -/
def tableTurnedSpec : ChangeSpec := { name := "tableTurned", fn := fun _ => fun
  | [d1, d2] => { results := [.lit (.bool true)], args := [d1, d2] }
  | _ => none }
def tableTurnedRow : OpenClaim := { program := "ytabfopjkgeoiiaagreatdoor", sum := "754a1bb3110fa016c41683b61403bf9eb189f906973ec3fb293467ea61c56591", func := "graft/graftlaw9.TableTurned", spec := "tableTurned", inPlace := ["internal/abi.NoEscape"], unfollowed := true, recurses := true, named := ["internal/strconv.uint64pow10", "math/bits.deBruijn32tab", "math/bits.deBruijn64tab"], loops := true, plainKeys := false, apart := false, laid := [("math/bits.deBruijn32tab", laid_math_bits_deBruijn32tab), ("math/bits.deBruijn64tab", laid_math_bits_deBruijn64tab), ("internal/strconv.uint64pow10", laid_internal_strconv_uint64pow10)] }
def TableTurnedSaid : Prop := tableTurnedRow.holds Tryz.pinned (OpenSpec.ofChange tableTurnedSpec)

/-- ITS FALSE NEIGHBOUR: 'it returns false'. Refute it at one input. -/
def tableTurnedWrong : ChangeSpec := { name := "tableTurned", fn := fun _ => fun
  | [d1, d2] => { results := [.lit (.bool false)], args := [d1, d2] }
  | _ => none }
def TableTurnedWrongFalsely : Prop := tableTurnedRow.holds Tryz.pinned (OpenSpec.ofChange tableTurnedWrong)

/-- 'graftlaw9.TableGotos': WHATEVER THE INPUT: true; the input reads as it did. -/
def tableGotosSpec : ChangeSpec := { name := "tableGotos", fn := fun _ => fun
  | [d] => { results := [.lit (.bool true)], args := [d] }
  | _ => none }
def tableGotosRow : OpenClaim := { program := "ytabfopjkgeoiiaagreatdoor", sum := "754a1bb3110fa016c41683b61403bf9eb189f906973ec3fb293467ea61c56591", func := "graft/graftlaw9.TableGotos", spec := "tableGotos", inPlace := ["internal/abi.NoEscape"], unfollowed := true, recurses := true, named := ["internal/strconv.uint64pow10", "math/bits.deBruijn32tab", "math/bits.deBruijn64tab"], loops := true, plainKeys := false, apart := false, laid := [("math/bits.deBruijn32tab", laid_math_bits_deBruijn32tab), ("math/bits.deBruijn64tab", laid_math_bits_deBruijn64tab), ("internal/strconv.uint64pow10", laid_internal_strconv_uint64pow10)] }
def TableGotosSaid : Prop := tableGotosRow.holds Tryz.pinned (OpenSpec.ofChange tableGotosSpec)

/-- ITS FALSE NEIGHBOUR: 'it returns false'. Refute it at one input. -/
def tableGotosWrong : ChangeSpec := { name := "tableGotos", fn := fun _ => fun
  | [d] => { results := [.lit (.bool false)], args := [d] }
  | _ => none }
def TableGotosWrongFalsely : Prop := tableGotosRow.holds Tryz.pinned (OpenSpec.ofChange tableGotosWrong)

/-- 'graftlaw9.TableTold': WHATEVER THE INPUT: true; the input reads as it did. -/
def tableToldSpec : ChangeSpec := { name := "tableTold", fn := fun _ => fun
  | [d] => { results := [.lit (.bool true)], args := [d] }
  | _ => none }
def tableToldRow : OpenClaim := { program := "ytabfopjkgeoiiaagreatdoor", sum := "754a1bb3110fa016c41683b61403bf9eb189f906973ec3fb293467ea61c56591", func := "graft/graftlaw9.TableTold", spec := "tableTold", inPlace := ["internal/abi.NoEscape"], unfollowed := true, recurses := true, named := ["internal/strconv.uint64pow10", "math/bits.deBruijn32tab", "math/bits.deBruijn64tab"], loops := true, plainKeys := false, apart := false, laid := [("math/bits.deBruijn32tab", laid_math_bits_deBruijn32tab), ("math/bits.deBruijn64tab", laid_math_bits_deBruijn64tab), ("internal/strconv.uint64pow10", laid_internal_strconv_uint64pow10)] }
def TableToldSaid : Prop := tableToldRow.holds Tryz.pinned (OpenSpec.ofChange tableToldSpec)

/-- ITS FALSE NEIGHBOUR: 'it returns false'. Refute it at one input. -/
def tableToldWrong : ChangeSpec := { name := "tableTold", fn := fun _ => fun
  | [d] => { results := [.lit (.bool false)], args := [d] }
  | _ => none }
def TableToldWrongFalsely : Prop := tableToldRow.holds Tryz.pinned (OpenSpec.ofChange tableToldWrong)

/-- 'graftlaw9.TableLooks': WHATEVER THE INPUT: true; the input reads as it did. -/
def tableLooksSpec : ChangeSpec := { name := "tableLooks", fn := fun _ => fun
  | [d] => { results := [.lit (.bool true)], args := [d] }
  | _ => none }
def tableLooksRow : OpenClaim := { program := "ytabfopjkgeoiiaagreatdoor", sum := "754a1bb3110fa016c41683b61403bf9eb189f906973ec3fb293467ea61c56591", func := "graft/graftlaw9.TableLooks", spec := "tableLooks", inPlace := ["internal/abi.NoEscape"], unfollowed := true, recurses := true, named := ["internal/strconv.uint64pow10", "math/bits.deBruijn32tab", "math/bits.deBruijn64tab"], loops := true, plainKeys := false, apart := false, laid := [("math/bits.deBruijn32tab", laid_math_bits_deBruijn32tab), ("math/bits.deBruijn64tab", laid_math_bits_deBruijn64tab), ("internal/strconv.uint64pow10", laid_internal_strconv_uint64pow10)] }
def TableLooksSaid : Prop := tableLooksRow.holds Tryz.pinned (OpenSpec.ofChange tableLooksSpec)

/-- ITS FALSE NEIGHBOUR: 'it returns false'. Refute it at one input. -/
def tableLooksWrong : ChangeSpec := { name := "tableLooks", fn := fun _ => fun
  | [d] => { results := [.lit (.bool false)], args := [d] }
  | _ => none }
def TableLooksWrongFalsely : Prop := tableLooksRow.holds Tryz.pinned (OpenSpec.ofChange tableLooksWrong)

/-- 'graftlaw9.TableBook': WHATEVER THE INPUT: true; the input reads as it did. -/
def tableBookSpec : ChangeSpec := { name := "tableBook", fn := fun _ => fun
  | [d1, d2] => { results := [.lit (.bool true)], args := [d1, d2] }
  | _ => none }
def tableBookRow : OpenClaim := { program := "ytabfopjkgeoiiaagreatdoor", sum := "754a1bb3110fa016c41683b61403bf9eb189f906973ec3fb293467ea61c56591", func := "graft/graftlaw9.TableBook", spec := "tableBook", inPlace := ["internal/abi.NoEscape"], unfollowed := true, recurses := true, named := ["internal/strconv.uint64pow10", "math/bits.deBruijn32tab", "math/bits.deBruijn64tab"], loops := true, plainKeys := false, apart := false, laid := [("math/bits.deBruijn32tab", laid_math_bits_deBruijn32tab), ("math/bits.deBruijn64tab", laid_math_bits_deBruijn64tab), ("internal/strconv.uint64pow10", laid_internal_strconv_uint64pow10)] }
def TableBookSaid : Prop := tableBookRow.holds Tryz.pinned (OpenSpec.ofChange tableBookSpec)

/-- ITS FALSE NEIGHBOUR: 'it returns false'. Refute it at one input. -/
def tableBookWrong : ChangeSpec := { name := "tableBook", fn := fun _ => fun
  | [d1, d2] => { results := [.lit (.bool false)], args := [d1, d2] }
  | _ => none }
def TableBookWrongFalsely : Prop := tableBookRow.holds Tryz.pinned (OpenSpec.ofChange tableBookWrong)

/-- 'graftlaw9.TableGoes': WHATEVER THE INPUT: true; the input reads as it did. -/
def tableGoesSpec : ChangeSpec := { name := "tableGoes", fn := fun _ => fun
  | [d1, d2] => { results := [.lit (.bool true)], args := [d1, d2] }
  | _ => none }
def tableGoesRow : OpenClaim := { program := "ytabfopjkgeoiiaagreatdoor", sum := "754a1bb3110fa016c41683b61403bf9eb189f906973ec3fb293467ea61c56591", func := "graft/graftlaw9.TableGoes", spec := "tableGoes", inPlace := ["internal/abi.NoEscape"], unfollowed := true, recurses := true, named := ["internal/strconv.uint64pow10", "math/bits.deBruijn32tab", "math/bits.deBruijn64tab"], loops := true, plainKeys := false, apart := false, laid := [("math/bits.deBruijn32tab", laid_math_bits_deBruijn32tab), ("math/bits.deBruijn64tab", laid_math_bits_deBruijn64tab), ("internal/strconv.uint64pow10", laid_internal_strconv_uint64pow10)] }
def TableGoesSaid : Prop := tableGoesRow.holds Tryz.pinned (OpenSpec.ofChange tableGoesSpec)

/-- ITS FALSE NEIGHBOUR: 'it returns false'. Refute it at one input. -/
def tableGoesWrong : ChangeSpec := { name := "tableGoes", fn := fun _ => fun
  | [d1, d2] => { results := [.lit (.bool false)], args := [d1, d2] }
  | _ => none }
def TableGoesWrongFalsely : Prop := tableGoesRow.holds Tryz.pinned (OpenSpec.ofChange tableGoesWrong)

/-- 'graftlaw9.TableCanonical': WHATEVER THE INPUT: true; the input reads as it did. -/
def tableCanonicalSpec : ChangeSpec := { name := "tableCanonical", fn := fun _ => fun
  | [d] => { results := [.lit (.bool true)], args := [d] }
  | _ => none }
def tableCanonicalRow : OpenClaim := { program := "ytabfopjkgeoiiaagreatdoor", sum := "754a1bb3110fa016c41683b61403bf9eb189f906973ec3fb293467ea61c56591", func := "graft/graftlaw9.TableCanonical", spec := "tableCanonical", inPlace := ["internal/abi.NoEscape"], unfollowed := true, recurses := true, named := ["internal/strconv.uint64pow10", "math/bits.deBruijn32tab", "math/bits.deBruijn64tab"], loops := true, plainKeys := false, apart := false, laid := [("math/bits.deBruijn32tab", laid_math_bits_deBruijn32tab), ("math/bits.deBruijn64tab", laid_math_bits_deBruijn64tab), ("internal/strconv.uint64pow10", laid_internal_strconv_uint64pow10)] }
def TableCanonicalSaid : Prop := tableCanonicalRow.holds Tryz.pinned (OpenSpec.ofChange tableCanonicalSpec)

/-- ITS FALSE NEIGHBOUR: 'it returns false'. Refute it at one input. -/
def tableCanonicalWrong : ChangeSpec := { name := "tableCanonical", fn := fun _ => fun
  | [d] => { results := [.lit (.bool false)], args := [d] }
  | _ => none }
def TableCanonicalWrongFalsely : Prop := tableCanonicalRow.holds Tryz.pinned (OpenSpec.ofChange tableCanonicalWrong)

/-- 'graftlaw9.TableFollows': WHATEVER THE INPUT: true; the input reads as it did. -/
def tableFollowsSpec : ChangeSpec := { name := "tableFollows", fn := fun _ => fun
  | [d] => { results := [.lit (.bool true)], args := [d] }
  | _ => none }
def tableFollowsRow : OpenClaim := { program := "ytabfopjkgeoiiaagreatdoor", sum := "754a1bb3110fa016c41683b61403bf9eb189f906973ec3fb293467ea61c56591", func := "graft/graftlaw9.TableFollows", spec := "tableFollows", inPlace := ["internal/abi.NoEscape"], unfollowed := true, recurses := true, named := ["internal/strconv.uint64pow10", "math/bits.deBruijn32tab", "math/bits.deBruijn64tab"], loops := true, plainKeys := false, apart := false, laid := [("math/bits.deBruijn32tab", laid_math_bits_deBruijn32tab), ("math/bits.deBruijn64tab", laid_math_bits_deBruijn64tab), ("internal/strconv.uint64pow10", laid_internal_strconv_uint64pow10)] }
def TableFollowsSaid : Prop := tableFollowsRow.holds Tryz.pinned (OpenSpec.ofChange tableFollowsSpec)

/-- ITS FALSE NEIGHBOUR: 'it returns false'. Refute it at one input. -/
def tableFollowsWrong : ChangeSpec := { name := "tableFollows", fn := fun _ => fun
  | [d] => { results := [.lit (.bool false)], args := [d] }
  | _ => none }
def TableFollowsWrongFalsely : Prop := tableFollowsRow.holds Tryz.pinned (OpenSpec.ofChange tableFollowsWrong)

/- THE SECOND FORM. 'bulk': how many values and letters a reading holds, each counted each time it is reached (what is shared counts as often as it is met; a slice's spare places count too). A statement '..UptoSaid' is the law's where the arguments, and the package variables that the reading takes, are together of bulk at most 1048576: NARROWER than '..Said'. Prove '..Said' where nothing that the law and all that it calls make is longer than what came in: it says more and counts as full. Else prove '..UptoSaid'. A law counts once. -/
mutual
def uptoBulk {H : Type} : DataW H → Nat
  | .lit (.string bytes) => bytes.length + 1
  | .lit _ => 1
  | .nil => 1
  | .ptr d => uptoBulk d + 1
  | .slice elems spare => uptoBulkAll elems + uptoBulkAll spare + 1
  | .agg parts => uptoBulkAll parts + 1
  | .iface _ d => uptoBulk d + 1
  | .map entries => uptoBulkEntries entries + 1
  | .held _ => 1
def uptoBulkAll {H : Type} : List (DataW H) → Nat
  | [] => 0
  | d :: r => uptoBulk d + uptoBulkAll r
def uptoBulkEntries {H : Type} : List (Lit × DataW H) → Nat
  | [] => 0
  | x :: r => uptoBulkEntry x + uptoBulkEntries r
def uptoBulkEntry {H : Type} : Lit × DataW H → Nat
  | (.string bytes, d) => bytes.length + uptoBulk d + 1
  | (_, d) => uptoBulk d + 1
 end
def uptoSmall : (H : Type) → List (DataW H) → Bool := fun _ ds => decide (uptoBulkAll ds ≤ 1048576)
def OpenSpec.upto (s : _root_.Go.ChangeSpec) : _root_.Go.OpenSpec := { _root_.Go.OpenSpec.ofChange s with cond := some uptoSmall }

/-- 'graftlaw9.TableMakes', WHERE WHAT IT READS IS OF BULK AT MOST 1048576: true; the input reads as it did. -/
def tableMakesUptoRow : OpenClaim := { program := "ytabfopjkgeoiiaagreatdoor", sum := "754a1bb3110fa016c41683b61403bf9eb189f906973ec3fb293467ea61c56591", func := "graft/graftlaw9.TableMakes", spec := "tableMakes", inPlace := ["internal/abi.NoEscape"], unfollowed := true, recurses := true, named := ["internal/strconv.uint64pow10", "math/bits.deBruijn32tab", "math/bits.deBruijn64tab"], loops := true, plainKeys := false, apart := false, laid := [("math/bits.deBruijn32tab", laid_math_bits_deBruijn32tab), ("math/bits.deBruijn64tab", laid_math_bits_deBruijn64tab), ("internal/strconv.uint64pow10", laid_internal_strconv_uint64pow10)], narrowed := true }
def TableMakesUptoSaid : Prop := tableMakesUptoRow.holds Tryz.pinned (OpenSpec.upto tableMakesSpec)

/-- 'graftlaw9.TableActions', WHERE WHAT IT READS IS OF BULK AT MOST 1048576: true; the input reads as it did. -/
def tableActionsUptoRow : OpenClaim := { program := "ytabfopjkgeoiiaagreatdoor", sum := "754a1bb3110fa016c41683b61403bf9eb189f906973ec3fb293467ea61c56591", func := "graft/graftlaw9.TableActions", spec := "tableActions", inPlace := ["internal/abi.NoEscape"], unfollowed := true, recurses := true, named := ["internal/strconv.uint64pow10", "math/bits.deBruijn32tab", "math/bits.deBruijn64tab"], loops := true, plainKeys := false, apart := false, laid := [("math/bits.deBruijn32tab", laid_math_bits_deBruijn32tab), ("math/bits.deBruijn64tab", laid_math_bits_deBruijn64tab), ("internal/strconv.uint64pow10", laid_internal_strconv_uint64pow10)], narrowed := true }
def TableActionsUptoSaid : Prop := tableActionsUptoRow.holds Tryz.pinned (OpenSpec.upto tableActionsSpec)

/-- 'graftlaw9.TableRuns', WHERE WHAT IT READS IS OF BULK AT MOST 1048576: true; the input reads as it did. -/
def tableRunsUptoRow : OpenClaim := { program := "ytabfopjkgeoiiaagreatdoor", sum := "754a1bb3110fa016c41683b61403bf9eb189f906973ec3fb293467ea61c56591", func := "graft/graftlaw9.TableRuns", spec := "tableRuns", inPlace := ["internal/abi.NoEscape"], unfollowed := true, recurses := true, named := ["internal/strconv.uint64pow10", "math/bits.deBruijn32tab", "math/bits.deBruijn64tab"], loops := true, plainKeys := false, apart := false, laid := [("math/bits.deBruijn32tab", laid_math_bits_deBruijn32tab), ("math/bits.deBruijn64tab", laid_math_bits_deBruijn64tab), ("internal/strconv.uint64pow10", laid_internal_strconv_uint64pow10)], narrowed := true }
def TableRunsUptoSaid : Prop := tableRunsUptoRow.holds Tryz.pinned (OpenSpec.upto tableRunsSpec)

/-- 'graftlaw9.TableReads', WHERE WHAT IT READS IS OF BULK AT MOST 1048576: true; the input reads as it did. -/
def tableReadsUptoRow : OpenClaim := { program := "ytabfopjkgeoiiaagreatdoor", sum := "754a1bb3110fa016c41683b61403bf9eb189f906973ec3fb293467ea61c56591", func := "graft/graftlaw9.TableReads", spec := "tableReads", inPlace := ["internal/abi.NoEscape"], unfollowed := true, recurses := true, named := ["internal/strconv.uint64pow10", "math/bits.deBruijn32tab", "math/bits.deBruijn64tab"], loops := true, plainKeys := false, apart := false, laid := [("math/bits.deBruijn32tab", laid_math_bits_deBruijn32tab), ("math/bits.deBruijn64tab", laid_math_bits_deBruijn64tab), ("internal/strconv.uint64pow10", laid_internal_strconv_uint64pow10)], narrowed := true }
def TableReadsUptoSaid : Prop := tableReadsUptoRow.holds Tryz.pinned (OpenSpec.upto tableReadsSpec)

/-- 'graftlaw9.TableSteps', WHERE WHAT IT READS IS OF BULK AT MOST 1048576: true; the input reads as it did. -/
def tableStepsUptoRow : OpenClaim := { program := "ytabfopjkgeoiiaagreatdoor", sum := "754a1bb3110fa016c41683b61403bf9eb189f906973ec3fb293467ea61c56591", func := "graft/graftlaw9.TableSteps", spec := "tableSteps", inPlace := ["internal/abi.NoEscape"], unfollowed := true, recurses := true, named := ["internal/strconv.uint64pow10", "math/bits.deBruijn32tab", "math/bits.deBruijn64tab"], loops := true, plainKeys := false, apart := false, laid := [("math/bits.deBruijn32tab", laid_math_bits_deBruijn32tab), ("math/bits.deBruijn64tab", laid_math_bits_deBruijn64tab), ("internal/strconv.uint64pow10", laid_internal_strconv_uint64pow10)], narrowed := true }
def TableStepsUptoSaid : Prop := tableStepsUptoRow.holds Tryz.pinned (OpenSpec.upto tableStepsSpec)

/-- 'graftlaw9.TableTurned', WHERE WHAT IT READS IS OF BULK AT MOST 1048576: true; the input reads as it did. -/
def tableTurnedUptoRow : OpenClaim := { program := "ytabfopjkgeoiiaagreatdoor", sum := "754a1bb3110fa016c41683b61403bf9eb189f906973ec3fb293467ea61c56591", func := "graft/graftlaw9.TableTurned", spec := "tableTurned", inPlace := ["internal/abi.NoEscape"], unfollowed := true, recurses := true, named := ["internal/strconv.uint64pow10", "math/bits.deBruijn32tab", "math/bits.deBruijn64tab"], loops := true, plainKeys := false, apart := false, laid := [("math/bits.deBruijn32tab", laid_math_bits_deBruijn32tab), ("math/bits.deBruijn64tab", laid_math_bits_deBruijn64tab), ("internal/strconv.uint64pow10", laid_internal_strconv_uint64pow10)], narrowed := true }
def TableTurnedUptoSaid : Prop := tableTurnedUptoRow.holds Tryz.pinned (OpenSpec.upto tableTurnedSpec)

/-- 'graftlaw9.TableGotos', WHERE WHAT IT READS IS OF BULK AT MOST 1048576: true; the input reads as it did. -/
def tableGotosUptoRow : OpenClaim := { program := "ytabfopjkgeoiiaagreatdoor", sum := "754a1bb3110fa016c41683b61403bf9eb189f906973ec3fb293467ea61c56591", func := "graft/graftlaw9.TableGotos", spec := "tableGotos", inPlace := ["internal/abi.NoEscape"], unfollowed := true, recurses := true, named := ["internal/strconv.uint64pow10", "math/bits.deBruijn32tab", "math/bits.deBruijn64tab"], loops := true, plainKeys := false, apart := false, laid := [("math/bits.deBruijn32tab", laid_math_bits_deBruijn32tab), ("math/bits.deBruijn64tab", laid_math_bits_deBruijn64tab), ("internal/strconv.uint64pow10", laid_internal_strconv_uint64pow10)], narrowed := true }
def TableGotosUptoSaid : Prop := tableGotosUptoRow.holds Tryz.pinned (OpenSpec.upto tableGotosSpec)

/-- 'graftlaw9.TableTold', WHERE WHAT IT READS IS OF BULK AT MOST 1048576: true; the input reads as it did. -/
def tableToldUptoRow : OpenClaim := { program := "ytabfopjkgeoiiaagreatdoor", sum := "754a1bb3110fa016c41683b61403bf9eb189f906973ec3fb293467ea61c56591", func := "graft/graftlaw9.TableTold", spec := "tableTold", inPlace := ["internal/abi.NoEscape"], unfollowed := true, recurses := true, named := ["internal/strconv.uint64pow10", "math/bits.deBruijn32tab", "math/bits.deBruijn64tab"], loops := true, plainKeys := false, apart := false, laid := [("math/bits.deBruijn32tab", laid_math_bits_deBruijn32tab), ("math/bits.deBruijn64tab", laid_math_bits_deBruijn64tab), ("internal/strconv.uint64pow10", laid_internal_strconv_uint64pow10)], narrowed := true }
def TableToldUptoSaid : Prop := tableToldUptoRow.holds Tryz.pinned (OpenSpec.upto tableToldSpec)

/-- 'graftlaw9.TableLooks', WHERE WHAT IT READS IS OF BULK AT MOST 1048576: true; the input reads as it did. -/
def tableLooksUptoRow : OpenClaim := { program := "ytabfopjkgeoiiaagreatdoor", sum := "754a1bb3110fa016c41683b61403bf9eb189f906973ec3fb293467ea61c56591", func := "graft/graftlaw9.TableLooks", spec := "tableLooks", inPlace := ["internal/abi.NoEscape"], unfollowed := true, recurses := true, named := ["internal/strconv.uint64pow10", "math/bits.deBruijn32tab", "math/bits.deBruijn64tab"], loops := true, plainKeys := false, apart := false, laid := [("math/bits.deBruijn32tab", laid_math_bits_deBruijn32tab), ("math/bits.deBruijn64tab", laid_math_bits_deBruijn64tab), ("internal/strconv.uint64pow10", laid_internal_strconv_uint64pow10)], narrowed := true }
def TableLooksUptoSaid : Prop := tableLooksUptoRow.holds Tryz.pinned (OpenSpec.upto tableLooksSpec)

/-- 'graftlaw9.TableBook', WHERE WHAT IT READS IS OF BULK AT MOST 1048576: true; the input reads as it did. -/
def tableBookUptoRow : OpenClaim := { program := "ytabfopjkgeoiiaagreatdoor", sum := "754a1bb3110fa016c41683b61403bf9eb189f906973ec3fb293467ea61c56591", func := "graft/graftlaw9.TableBook", spec := "tableBook", inPlace := ["internal/abi.NoEscape"], unfollowed := true, recurses := true, named := ["internal/strconv.uint64pow10", "math/bits.deBruijn32tab", "math/bits.deBruijn64tab"], loops := true, plainKeys := false, apart := false, laid := [("math/bits.deBruijn32tab", laid_math_bits_deBruijn32tab), ("math/bits.deBruijn64tab", laid_math_bits_deBruijn64tab), ("internal/strconv.uint64pow10", laid_internal_strconv_uint64pow10)], narrowed := true }
def TableBookUptoSaid : Prop := tableBookUptoRow.holds Tryz.pinned (OpenSpec.upto tableBookSpec)

/-- 'graftlaw9.TableGoes', WHERE WHAT IT READS IS OF BULK AT MOST 1048576: true; the input reads as it did. -/
def tableGoesUptoRow : OpenClaim := { program := "ytabfopjkgeoiiaagreatdoor", sum := "754a1bb3110fa016c41683b61403bf9eb189f906973ec3fb293467ea61c56591", func := "graft/graftlaw9.TableGoes", spec := "tableGoes", inPlace := ["internal/abi.NoEscape"], unfollowed := true, recurses := true, named := ["internal/strconv.uint64pow10", "math/bits.deBruijn32tab", "math/bits.deBruijn64tab"], loops := true, plainKeys := false, apart := false, laid := [("math/bits.deBruijn32tab", laid_math_bits_deBruijn32tab), ("math/bits.deBruijn64tab", laid_math_bits_deBruijn64tab), ("internal/strconv.uint64pow10", laid_internal_strconv_uint64pow10)], narrowed := true }
def TableGoesUptoSaid : Prop := tableGoesUptoRow.holds Tryz.pinned (OpenSpec.upto tableGoesSpec)

/-- 'graftlaw9.TableCanonical', WHERE WHAT IT READS IS OF BULK AT MOST 1048576: true; the input reads as it did. -/
def tableCanonicalUptoRow : OpenClaim := { program := "ytabfopjkgeoiiaagreatdoor", sum := "754a1bb3110fa016c41683b61403bf9eb189f906973ec3fb293467ea61c56591", func := "graft/graftlaw9.TableCanonical", spec := "tableCanonical", inPlace := ["internal/abi.NoEscape"], unfollowed := true, recurses := true, named := ["internal/strconv.uint64pow10", "math/bits.deBruijn32tab", "math/bits.deBruijn64tab"], loops := true, plainKeys := false, apart := false, laid := [("math/bits.deBruijn32tab", laid_math_bits_deBruijn32tab), ("math/bits.deBruijn64tab", laid_math_bits_deBruijn64tab), ("internal/strconv.uint64pow10", laid_internal_strconv_uint64pow10)], narrowed := true }
def TableCanonicalUptoSaid : Prop := tableCanonicalUptoRow.holds Tryz.pinned (OpenSpec.upto tableCanonicalSpec)

/-- 'graftlaw9.TableFollows', WHERE WHAT IT READS IS OF BULK AT MOST 1048576: true; the input reads as it did. -/
def tableFollowsUptoRow : OpenClaim := { program := "ytabfopjkgeoiiaagreatdoor", sum := "754a1bb3110fa016c41683b61403bf9eb189f906973ec3fb293467ea61c56591", func := "graft/graftlaw9.TableFollows", spec := "tableFollows", inPlace := ["internal/abi.NoEscape"], unfollowed := true, recurses := true, named := ["internal/strconv.uint64pow10", "math/bits.deBruijn32tab", "math/bits.deBruijn64tab"], loops := true, plainKeys := false, apart := false, laid := [("math/bits.deBruijn32tab", laid_math_bits_deBruijn32tab), ("math/bits.deBruijn64tab", laid_math_bits_deBruijn64tab), ("internal/strconv.uint64pow10", laid_internal_strconv_uint64pow10)], narrowed := true }
def TableFollowsUptoSaid : Prop := tableFollowsUptoRow.holds Tryz.pinned (OpenSpec.upto tableFollowsSpec)

end Rows
end Go.Proofs.YtabfopjkgeoiiaaGreatDoor
