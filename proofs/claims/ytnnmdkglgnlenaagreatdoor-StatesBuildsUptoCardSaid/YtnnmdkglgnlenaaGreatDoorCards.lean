/-
  DERIVED. GIVEN WITH THE SEED: THE CARDS: each row of YtnnmdkglgnlenaaGreatDoorRows.lean that lists a variable, with what it lists TIED to the program's text (the seventh form; the later family's looks); each row that meets fmt, with fmt's text TOLD by the authors' own Lean function (tested against real Go, not proved from fmt's source: count such statements apart). THE CARD IS WHAT COUNTS. Prove the row's statement (the work); the ties are given (YtnnmdkglgnlenaaGreatDoorTie.lean); close each card by the builder's one call (the guide's Derived/Test/ToyasCard.lean, 'card_holds'). Laid BY PROGRAM, IN A SANDBOX (cutbox-door.mjs). By AI agents, Wed Nov 11 2026. No macro, syntax, notation, axiom, sorry.
-/
import Derived.Test.YtnnmdkglgnlenaaGreatDoorRows
import GoSem.ClaimSeven
namespace Go.Proofs.YtnnmdkglgnlenaaGreatDoor
namespace Rows

/-- THE TIED CARD OF 'graftlaw8.StatesDerives'. -/
def statesDerivesCard : Claim7 := { stood := { row := statesDerivesRow, standIns := [], harness := (true, "df20a2ff858e9ebe007e6715143440ae403b4360e5edca5949a33094cf26433c"), looks := false }, kinds := [], alts := [], laidByText := true, laidKinds := [.data, .data, .data], laidTests := true, laidLooks := .later }
def StatesDerivesCardSaid : Prop := Claim7.holds Tryz.pinned (.plain (OpenSpec.ofChange statesDerivesSpec)) statesDerivesCard

/-- THE TIED CARD OF 'graftlaw8.StatesRuns'. -/
def statesRunsCard : Claim7 := { stood := { row := statesRunsRow, standIns := [], harness := (true, "df20a2ff858e9ebe007e6715143440ae403b4360e5edca5949a33094cf26433c"), looks := false }, kinds := [], alts := [], laidByText := true, laidKinds := [.data, .data, .data], laidTests := true, laidLooks := .later }
def StatesRunsCardSaid : Prop := Claim7.holds Tryz.pinned (.plain (OpenSpec.ofChange statesRunsSpec)) statesRunsCard

/-- THE TIED CARD OF 'graftlaw8.StatesPaths'. -/
def statesPathsCard : Claim7 := { stood := { row := statesPathsRow, standIns := [], harness := (true, "df20a2ff858e9ebe007e6715143440ae403b4360e5edca5949a33094cf26433c"), looks := false }, kinds := [], alts := [], laidByText := true, laidKinds := [.data, .data, .data], laidTests := true, laidLooks := .later }
def StatesPathsCardSaid : Prop := Claim7.holds Tryz.pinned (.plain (OpenSpec.ofChange statesPathsSpec)) statesPathsCard

/-- THE TIED CARD OF 'graftlaw8.StatesBlind'. -/
def statesBlindCard : Claim7 := { stood := { row := statesBlindRow, standIns := [], harness := (true, "df20a2ff858e9ebe007e6715143440ae403b4360e5edca5949a33094cf26433c"), looks := false }, kinds := [], alts := [], laidByText := true, laidKinds := [.data, .data, .data], laidTests := true, laidLooks := .later }
def StatesBlindCardSaid : Prop := Claim7.holds Tryz.pinned (.plain (OpenSpec.ofChange statesBlindSpec)) statesBlindCard

/-- THE TIED CARD OF 'graftlaw8.StatesOwn'. -/
def statesOwnCard : Claim7 := { stood := { row := statesOwnRow, standIns := [], harness := (true, "df20a2ff858e9ebe007e6715143440ae403b4360e5edca5949a33094cf26433c"), looks := false }, kinds := [], alts := [], laidByText := true, laidKinds := [.data, .data, .data], laidTests := true, laidLooks := .later }
def StatesOwnCardSaid : Prop := Claim7.holds Tryz.pinned (.plain (OpenSpec.ofChange statesOwnSpec)) statesOwnCard

/-- THE TIED CARD OF 'graftlaw8.StatesBuilds'. -/
def statesBuildsCard : Claim7 := { stood := { row := statesBuildsRow, standIns := [], harness := (true, "df20a2ff858e9ebe007e6715143440ae403b4360e5edca5949a33094cf26433c"), looks := false }, kinds := [], alts := [], laidByText := true, laidKinds := [.data, .data, .data], laidTests := true, laidLooks := .later }
def StatesBuildsCardSaid : Prop := Claim7.holds Tryz.pinned (.plain (OpenSpec.ofChange statesBuildsSpec)) statesBuildsCard

/-- THE SECOND FORM's CARD OF 'graftlaw8.StatesDerives'. -/
def statesDerivesUptoCard : Claim7 := { stood := { row := statesDerivesUptoRow, standIns := [], harness := (true, "df20a2ff858e9ebe007e6715143440ae403b4360e5edca5949a33094cf26433c"), looks := false }, kinds := [], alts := [], laidByText := true, laidKinds := [.data, .data, .data], laidTests := true, laidLooks := .later }
def StatesDerivesUptoCardSaid : Prop := Claim7.holds Tryz.pinned (.plain (OpenSpec.upto statesDerivesSpec)) statesDerivesUptoCard

/-- THE SECOND FORM's CARD OF 'graftlaw8.StatesRuns'. -/
def statesRunsUptoCard : Claim7 := { stood := { row := statesRunsUptoRow, standIns := [], harness := (true, "df20a2ff858e9ebe007e6715143440ae403b4360e5edca5949a33094cf26433c"), looks := false }, kinds := [], alts := [], laidByText := true, laidKinds := [.data, .data, .data], laidTests := true, laidLooks := .later }
def StatesRunsUptoCardSaid : Prop := Claim7.holds Tryz.pinned (.plain (OpenSpec.upto statesRunsSpec)) statesRunsUptoCard

/-- THE SECOND FORM's CARD OF 'graftlaw8.StatesPaths'. -/
def statesPathsUptoCard : Claim7 := { stood := { row := statesPathsUptoRow, standIns := [], harness := (true, "df20a2ff858e9ebe007e6715143440ae403b4360e5edca5949a33094cf26433c"), looks := false }, kinds := [], alts := [], laidByText := true, laidKinds := [.data, .data, .data], laidTests := true, laidLooks := .later }
def StatesPathsUptoCardSaid : Prop := Claim7.holds Tryz.pinned (.plain (OpenSpec.upto statesPathsSpec)) statesPathsUptoCard

/-- THE SECOND FORM's CARD OF 'graftlaw8.StatesBlind'. -/
def statesBlindUptoCard : Claim7 := { stood := { row := statesBlindUptoRow, standIns := [], harness := (true, "df20a2ff858e9ebe007e6715143440ae403b4360e5edca5949a33094cf26433c"), looks := false }, kinds := [], alts := [], laidByText := true, laidKinds := [.data, .data, .data], laidTests := true, laidLooks := .later }
def StatesBlindUptoCardSaid : Prop := Claim7.holds Tryz.pinned (.plain (OpenSpec.upto statesBlindSpec)) statesBlindUptoCard

/-- THE SECOND FORM's CARD OF 'graftlaw8.StatesOwn'. -/
def statesOwnUptoCard : Claim7 := { stood := { row := statesOwnUptoRow, standIns := [], harness := (true, "df20a2ff858e9ebe007e6715143440ae403b4360e5edca5949a33094cf26433c"), looks := false }, kinds := [], alts := [], laidByText := true, laidKinds := [.data, .data, .data], laidTests := true, laidLooks := .later }
def StatesOwnUptoCardSaid : Prop := Claim7.holds Tryz.pinned (.plain (OpenSpec.upto statesOwnSpec)) statesOwnUptoCard

/-- THE SECOND FORM's CARD OF 'graftlaw8.StatesBuilds'. -/
def statesBuildsUptoCard : Claim7 := { stood := { row := statesBuildsUptoRow, standIns := [], harness := (true, "df20a2ff858e9ebe007e6715143440ae403b4360e5edca5949a33094cf26433c"), looks := false }, kinds := [], alts := [], laidByText := true, laidKinds := [.data, .data, .data], laidTests := true, laidLooks := .later }
def StatesBuildsUptoCardSaid : Prop := Claim7.holds Tryz.pinned (.plain (OpenSpec.upto statesBuildsSpec)) statesBuildsUptoCard
end Rows
end Go.Proofs.YtnnmdkglgnlenaaGreatDoor
