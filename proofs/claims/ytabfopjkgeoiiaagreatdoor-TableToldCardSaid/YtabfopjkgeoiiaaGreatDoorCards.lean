/-
  DERIVED. GIVEN WITH THE SEED: THE CARDS: each row of YtabfopjkgeoiiaaGreatDoorRows.lean that lists a variable, with what it lists TIED to the program's text (the seventh form; the later family's looks); each row that meets fmt, with fmt's text TOLD by the authors' own Lean function (tested against real Go, not proved from fmt's source: count such statements apart). THE CARD IS WHAT COUNTS. Prove the row's statement (the work); the ties are given (YtabfopjkgeoiiaaGreatDoorTie.lean); close each card by the builder's one call (the guide's Derived/Test/ToyasCard.lean, 'card_holds'). Laid BY PROGRAM, IN A SANDBOX (cutbox-door.mjs). By AI agents, Wed Nov 11 2026. No macro, syntax, notation, axiom, sorry.
-/
import Derived.Test.YtabfopjkgeoiiaaGreatDoorRows
import GoSem.ClaimSeven
namespace Go.Proofs.YtabfopjkgeoiiaaGreatDoor
namespace Rows

/-- THE TIED CARD OF 'graftlaw9.TableMakes'. -/
def tableMakesCard : Claim7 := { stood := { row := tableMakesRow, standIns := [], harness := (true, "72c567aeeaedd4cba9b6d76dd7b1a51e0e7edadf34832b9cf785eff45299dd8e"), looks := false }, kinds := [], alts := [], laidByText := true, laidKinds := [.data, .data, .data], laidTests := true, laidLooks := .later }
def TableMakesCardSaid : Prop := Claim7.holds Tryz.pinned (.plain (OpenSpec.ofChange tableMakesSpec)) tableMakesCard

/-- THE TIED CARD OF 'graftlaw9.TableActions'. -/
def tableActionsCard : Claim7 := { stood := { row := tableActionsRow, standIns := [], harness := (true, "72c567aeeaedd4cba9b6d76dd7b1a51e0e7edadf34832b9cf785eff45299dd8e"), looks := false }, kinds := [], alts := [], laidByText := true, laidKinds := [.data, .data, .data], laidTests := true, laidLooks := .later }
def TableActionsCardSaid : Prop := Claim7.holds Tryz.pinned (.plain (OpenSpec.ofChange tableActionsSpec)) tableActionsCard

/-- THE TIED CARD OF 'graftlaw9.TableRuns'. -/
def tableRunsCard : Claim7 := { stood := { row := tableRunsRow, standIns := [], harness := (true, "72c567aeeaedd4cba9b6d76dd7b1a51e0e7edadf34832b9cf785eff45299dd8e"), looks := false }, kinds := [], alts := [], laidByText := true, laidKinds := [.data, .data, .data], laidTests := true, laidLooks := .later }
def TableRunsCardSaid : Prop := Claim7.holds Tryz.pinned (.plain (OpenSpec.ofChange tableRunsSpec)) tableRunsCard

/-- THE TIED CARD OF 'graftlaw9.TableReads'. -/
def tableReadsCard : Claim7 := { stood := { row := tableReadsRow, standIns := [], harness := (true, "72c567aeeaedd4cba9b6d76dd7b1a51e0e7edadf34832b9cf785eff45299dd8e"), looks := false }, kinds := [], alts := [], laidByText := true, laidKinds := [.data, .data, .data], laidTests := true, laidLooks := .later }
def TableReadsCardSaid : Prop := Claim7.holds Tryz.pinned (.plain (OpenSpec.ofChange tableReadsSpec)) tableReadsCard

/-- THE TIED CARD OF 'graftlaw9.TableSteps'. -/
def tableStepsCard : Claim7 := { stood := { row := tableStepsRow, standIns := [], harness := (true, "72c567aeeaedd4cba9b6d76dd7b1a51e0e7edadf34832b9cf785eff45299dd8e"), looks := false }, kinds := [], alts := [], laidByText := true, laidKinds := [.data, .data, .data], laidTests := true, laidLooks := .later }
def TableStepsCardSaid : Prop := Claim7.holds Tryz.pinned (.plain (OpenSpec.ofChange tableStepsSpec)) tableStepsCard

/-- THE TIED CARD OF 'graftlaw9.TableTurned'. -/
def tableTurnedCard : Claim7 := { stood := { row := tableTurnedRow, standIns := [], harness := (true, "72c567aeeaedd4cba9b6d76dd7b1a51e0e7edadf34832b9cf785eff45299dd8e"), looks := false }, kinds := [], alts := [], laidByText := true, laidKinds := [.data, .data, .data], laidTests := true, laidLooks := .later }
def TableTurnedCardSaid : Prop := Claim7.holds Tryz.pinned (.plain (OpenSpec.ofChange tableTurnedSpec)) tableTurnedCard

/-- THE TIED CARD OF 'graftlaw9.TableGotos'. -/
def tableGotosCard : Claim7 := { stood := { row := tableGotosRow, standIns := [], harness := (true, "72c567aeeaedd4cba9b6d76dd7b1a51e0e7edadf34832b9cf785eff45299dd8e"), looks := false }, kinds := [], alts := [], laidByText := true, laidKinds := [.data, .data, .data], laidTests := true, laidLooks := .later }
def TableGotosCardSaid : Prop := Claim7.holds Tryz.pinned (.plain (OpenSpec.ofChange tableGotosSpec)) tableGotosCard

/-- THE TIED CARD OF 'graftlaw9.TableTold'. -/
def tableToldCard : Claim7 := { stood := { row := tableToldRow, standIns := [], harness := (true, "72c567aeeaedd4cba9b6d76dd7b1a51e0e7edadf34832b9cf785eff45299dd8e"), looks := false }, kinds := [], alts := [], laidByText := true, laidKinds := [.data, .data, .data], laidTests := true, laidLooks := .later }
def TableToldCardSaid : Prop := Claim7.holds Tryz.pinned (.plain (OpenSpec.ofChange tableToldSpec)) tableToldCard

/-- THE TIED CARD OF 'graftlaw9.TableLooks'. -/
def tableLooksCard : Claim7 := { stood := { row := tableLooksRow, standIns := [], harness := (true, "72c567aeeaedd4cba9b6d76dd7b1a51e0e7edadf34832b9cf785eff45299dd8e"), looks := false }, kinds := [], alts := [], laidByText := true, laidKinds := [.data, .data, .data], laidTests := true, laidLooks := .later }
def TableLooksCardSaid : Prop := Claim7.holds Tryz.pinned (.plain (OpenSpec.ofChange tableLooksSpec)) tableLooksCard

/-- THE TIED CARD OF 'graftlaw9.TableBook'. -/
def tableBookCard : Claim7 := { stood := { row := tableBookRow, standIns := [], harness := (true, "72c567aeeaedd4cba9b6d76dd7b1a51e0e7edadf34832b9cf785eff45299dd8e"), looks := false }, kinds := [], alts := [], laidByText := true, laidKinds := [.data, .data, .data], laidTests := true, laidLooks := .later }
def TableBookCardSaid : Prop := Claim7.holds Tryz.pinned (.plain (OpenSpec.ofChange tableBookSpec)) tableBookCard

/-- THE TIED CARD OF 'graftlaw9.TableGoes'. -/
def tableGoesCard : Claim7 := { stood := { row := tableGoesRow, standIns := [], harness := (true, "72c567aeeaedd4cba9b6d76dd7b1a51e0e7edadf34832b9cf785eff45299dd8e"), looks := false }, kinds := [], alts := [], laidByText := true, laidKinds := [.data, .data, .data], laidTests := true, laidLooks := .later }
def TableGoesCardSaid : Prop := Claim7.holds Tryz.pinned (.plain (OpenSpec.ofChange tableGoesSpec)) tableGoesCard

/-- THE TIED CARD OF 'graftlaw9.TableCanonical'. -/
def tableCanonicalCard : Claim7 := { stood := { row := tableCanonicalRow, standIns := [], harness := (true, "72c567aeeaedd4cba9b6d76dd7b1a51e0e7edadf34832b9cf785eff45299dd8e"), looks := false }, kinds := [], alts := [], laidByText := true, laidKinds := [.data, .data, .data], laidTests := true, laidLooks := .later }
def TableCanonicalCardSaid : Prop := Claim7.holds Tryz.pinned (.plain (OpenSpec.ofChange tableCanonicalSpec)) tableCanonicalCard

/-- THE TIED CARD OF 'graftlaw9.TableFollows'. -/
def tableFollowsCard : Claim7 := { stood := { row := tableFollowsRow, standIns := [], harness := (true, "72c567aeeaedd4cba9b6d76dd7b1a51e0e7edadf34832b9cf785eff45299dd8e"), looks := false }, kinds := [], alts := [], laidByText := true, laidKinds := [.data, .data, .data], laidTests := true, laidLooks := .later }
def TableFollowsCardSaid : Prop := Claim7.holds Tryz.pinned (.plain (OpenSpec.ofChange tableFollowsSpec)) tableFollowsCard

/-- THE SECOND FORM's CARD OF 'graftlaw9.TableMakes'. -/
def tableMakesUptoCard : Claim7 := { stood := { row := tableMakesUptoRow, standIns := [], harness := (true, "72c567aeeaedd4cba9b6d76dd7b1a51e0e7edadf34832b9cf785eff45299dd8e"), looks := false }, kinds := [], alts := [], laidByText := true, laidKinds := [.data, .data, .data], laidTests := true, laidLooks := .later }
def TableMakesUptoCardSaid : Prop := Claim7.holds Tryz.pinned (.plain (OpenSpec.upto tableMakesSpec)) tableMakesUptoCard

/-- THE SECOND FORM's CARD OF 'graftlaw9.TableActions'. -/
def tableActionsUptoCard : Claim7 := { stood := { row := tableActionsUptoRow, standIns := [], harness := (true, "72c567aeeaedd4cba9b6d76dd7b1a51e0e7edadf34832b9cf785eff45299dd8e"), looks := false }, kinds := [], alts := [], laidByText := true, laidKinds := [.data, .data, .data], laidTests := true, laidLooks := .later }
def TableActionsUptoCardSaid : Prop := Claim7.holds Tryz.pinned (.plain (OpenSpec.upto tableActionsSpec)) tableActionsUptoCard

/-- THE SECOND FORM's CARD OF 'graftlaw9.TableRuns'. -/
def tableRunsUptoCard : Claim7 := { stood := { row := tableRunsUptoRow, standIns := [], harness := (true, "72c567aeeaedd4cba9b6d76dd7b1a51e0e7edadf34832b9cf785eff45299dd8e"), looks := false }, kinds := [], alts := [], laidByText := true, laidKinds := [.data, .data, .data], laidTests := true, laidLooks := .later }
def TableRunsUptoCardSaid : Prop := Claim7.holds Tryz.pinned (.plain (OpenSpec.upto tableRunsSpec)) tableRunsUptoCard

/-- THE SECOND FORM's CARD OF 'graftlaw9.TableReads'. -/
def tableReadsUptoCard : Claim7 := { stood := { row := tableReadsUptoRow, standIns := [], harness := (true, "72c567aeeaedd4cba9b6d76dd7b1a51e0e7edadf34832b9cf785eff45299dd8e"), looks := false }, kinds := [], alts := [], laidByText := true, laidKinds := [.data, .data, .data], laidTests := true, laidLooks := .later }
def TableReadsUptoCardSaid : Prop := Claim7.holds Tryz.pinned (.plain (OpenSpec.upto tableReadsSpec)) tableReadsUptoCard

/-- THE SECOND FORM's CARD OF 'graftlaw9.TableSteps'. -/
def tableStepsUptoCard : Claim7 := { stood := { row := tableStepsUptoRow, standIns := [], harness := (true, "72c567aeeaedd4cba9b6d76dd7b1a51e0e7edadf34832b9cf785eff45299dd8e"), looks := false }, kinds := [], alts := [], laidByText := true, laidKinds := [.data, .data, .data], laidTests := true, laidLooks := .later }
def TableStepsUptoCardSaid : Prop := Claim7.holds Tryz.pinned (.plain (OpenSpec.upto tableStepsSpec)) tableStepsUptoCard

/-- THE SECOND FORM's CARD OF 'graftlaw9.TableTurned'. -/
def tableTurnedUptoCard : Claim7 := { stood := { row := tableTurnedUptoRow, standIns := [], harness := (true, "72c567aeeaedd4cba9b6d76dd7b1a51e0e7edadf34832b9cf785eff45299dd8e"), looks := false }, kinds := [], alts := [], laidByText := true, laidKinds := [.data, .data, .data], laidTests := true, laidLooks := .later }
def TableTurnedUptoCardSaid : Prop := Claim7.holds Tryz.pinned (.plain (OpenSpec.upto tableTurnedSpec)) tableTurnedUptoCard

/-- THE SECOND FORM's CARD OF 'graftlaw9.TableGotos'. -/
def tableGotosUptoCard : Claim7 := { stood := { row := tableGotosUptoRow, standIns := [], harness := (true, "72c567aeeaedd4cba9b6d76dd7b1a51e0e7edadf34832b9cf785eff45299dd8e"), looks := false }, kinds := [], alts := [], laidByText := true, laidKinds := [.data, .data, .data], laidTests := true, laidLooks := .later }
def TableGotosUptoCardSaid : Prop := Claim7.holds Tryz.pinned (.plain (OpenSpec.upto tableGotosSpec)) tableGotosUptoCard

/-- THE SECOND FORM's CARD OF 'graftlaw9.TableTold'. -/
def tableToldUptoCard : Claim7 := { stood := { row := tableToldUptoRow, standIns := [], harness := (true, "72c567aeeaedd4cba9b6d76dd7b1a51e0e7edadf34832b9cf785eff45299dd8e"), looks := false }, kinds := [], alts := [], laidByText := true, laidKinds := [.data, .data, .data], laidTests := true, laidLooks := .later }
def TableToldUptoCardSaid : Prop := Claim7.holds Tryz.pinned (.plain (OpenSpec.upto tableToldSpec)) tableToldUptoCard

/-- THE SECOND FORM's CARD OF 'graftlaw9.TableLooks'. -/
def tableLooksUptoCard : Claim7 := { stood := { row := tableLooksUptoRow, standIns := [], harness := (true, "72c567aeeaedd4cba9b6d76dd7b1a51e0e7edadf34832b9cf785eff45299dd8e"), looks := false }, kinds := [], alts := [], laidByText := true, laidKinds := [.data, .data, .data], laidTests := true, laidLooks := .later }
def TableLooksUptoCardSaid : Prop := Claim7.holds Tryz.pinned (.plain (OpenSpec.upto tableLooksSpec)) tableLooksUptoCard

/-- THE SECOND FORM's CARD OF 'graftlaw9.TableBook'. -/
def tableBookUptoCard : Claim7 := { stood := { row := tableBookUptoRow, standIns := [], harness := (true, "72c567aeeaedd4cba9b6d76dd7b1a51e0e7edadf34832b9cf785eff45299dd8e"), looks := false }, kinds := [], alts := [], laidByText := true, laidKinds := [.data, .data, .data], laidTests := true, laidLooks := .later }
def TableBookUptoCardSaid : Prop := Claim7.holds Tryz.pinned (.plain (OpenSpec.upto tableBookSpec)) tableBookUptoCard

/-- THE SECOND FORM's CARD OF 'graftlaw9.TableGoes'. -/
def tableGoesUptoCard : Claim7 := { stood := { row := tableGoesUptoRow, standIns := [], harness := (true, "72c567aeeaedd4cba9b6d76dd7b1a51e0e7edadf34832b9cf785eff45299dd8e"), looks := false }, kinds := [], alts := [], laidByText := true, laidKinds := [.data, .data, .data], laidTests := true, laidLooks := .later }
def TableGoesUptoCardSaid : Prop := Claim7.holds Tryz.pinned (.plain (OpenSpec.upto tableGoesSpec)) tableGoesUptoCard

/-- THE SECOND FORM's CARD OF 'graftlaw9.TableCanonical'. -/
def tableCanonicalUptoCard : Claim7 := { stood := { row := tableCanonicalUptoRow, standIns := [], harness := (true, "72c567aeeaedd4cba9b6d76dd7b1a51e0e7edadf34832b9cf785eff45299dd8e"), looks := false }, kinds := [], alts := [], laidByText := true, laidKinds := [.data, .data, .data], laidTests := true, laidLooks := .later }
def TableCanonicalUptoCardSaid : Prop := Claim7.holds Tryz.pinned (.plain (OpenSpec.upto tableCanonicalSpec)) tableCanonicalUptoCard

/-- THE SECOND FORM's CARD OF 'graftlaw9.TableFollows'. -/
def tableFollowsUptoCard : Claim7 := { stood := { row := tableFollowsUptoRow, standIns := [], harness := (true, "72c567aeeaedd4cba9b6d76dd7b1a51e0e7edadf34832b9cf785eff45299dd8e"), looks := false }, kinds := [], alts := [], laidByText := true, laidKinds := [.data, .data, .data], laidTests := true, laidLooks := .later }
def TableFollowsUptoCardSaid : Prop := Claim7.holds Tryz.pinned (.plain (OpenSpec.upto tableFollowsSpec)) tableFollowsUptoCard
end Rows
end Go.Proofs.YtabfopjkgeoiiaaGreatDoor
