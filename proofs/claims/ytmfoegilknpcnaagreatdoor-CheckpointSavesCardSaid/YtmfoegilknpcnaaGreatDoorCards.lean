/-
  DERIVED. GIVEN WITH THE SEED: THE CARDS: each row of YtmfoegilknpcnaaGreatDoorRows.lean that lists a variable, with what it lists TIED to the program's text (the seventh form; the later family's looks); each row that meets fmt, with fmt's text TOLD by the authors' own Lean function (tested against real Go, not proved from fmt's source: count such statements apart). THE CARD IS WHAT COUNTS. Prove the row's statement (the work); the ties are given (YtmfoegilknpcnaaGreatDoorTie.lean); close each card by the builder's one call (the guide's Derived/Test/ToyasCard.lean, 'card_holds'). Laid BY PROGRAM, IN A SANDBOX (cutbox-door.mjs). By AI agents, Wed Nov 11 2026. No macro, syntax, notation, axiom, sorry.
-/
import Derived.Test.YtmfoegilknpcnaaGreatDoorRows
import GoSem.ClaimSeven
namespace Go.Proofs.YtmfoegilknpcnaaGreatDoor
namespace Rows

/-- THE TIED CARD OF 'tidegatelaw50.CheckpointLoads'. -/
def checkpointLoadsCard : Claim7 := { stood := { row := checkpointLoadsRow, standIns := [], harness := (true, "b74c78b384d0177a5d3c6c383ce3820b4611657fe4e20efeca939189690f2d00"), looks := true }, kinds := [], alts := [], laidByText := true, laidKinds := [.data, .data, .data, .data, .sentinel, .sentinel, .pinned], laidTests := true, laidLooks := .later }
def CheckpointLoadsCardSaid : Prop := Claim7.holds Tryz.pinned (.plain (OpenSpec.ofChange checkpointLoadsSpec)) checkpointLoadsCard

/-- THE TIED CARD OF 'tidegatelaw50.CheckpointSaves'. -/
def checkpointSavesCard : Claim7 := { stood := { row := checkpointSavesRow, standIns := [], harness := (true, "b74c78b384d0177a5d3c6c383ce3820b4611657fe4e20efeca939189690f2d00"), looks := true }, kinds := [], alts := [], laidByText := true, laidKinds := [.data, .data, .data, .data, .sentinel, .sentinel, .pinned], laidTests := true, laidLooks := .later }
def CheckpointSavesCardSaid : Prop := Claim7.holds Tryz.pinned (.plain (OpenSpec.ofChange checkpointSavesSpec)) checkpointSavesCard

/-- THE TIED CARD OF 'tidegatelaw50.CheckpointNames'. -/
def checkpointNamesCard : Claim7 := { stood := { row := checkpointNamesRow, standIns := [], harness := (true, "b74c78b384d0177a5d3c6c383ce3820b4611657fe4e20efeca939189690f2d00"), looks := true }, kinds := [], alts := [], laidByText := true, laidKinds := [.data, .data, .data, .data, .sentinel, .sentinel, .pinned], laidTests := true, laidLooks := .later }
def CheckpointNamesCardSaid : Prop := Claim7.holds Tryz.pinned (.plain (OpenSpec.ofChange checkpointNamesSpec)) checkpointNamesCard

/-- THE TIED CARD OF 'tidegatelaw50.CheckpointCommits'. -/
def checkpointCommitsCard : Claim7 := { stood := { row := checkpointCommitsRow, standIns := [], harness := (true, "b74c78b384d0177a5d3c6c383ce3820b4611657fe4e20efeca939189690f2d00"), looks := true }, kinds := [], alts := [], laidByText := true, laidKinds := [.data, .data, .data, .data, .sentinel, .sentinel, .pinned], laidTests := true, laidLooks := .later }
def CheckpointCommitsCardSaid : Prop := Claim7.holds Tryz.pinned (.plain (OpenSpec.ofChange checkpointCommitsSpec)) checkpointCommitsCard

/-- THE TIED CARD OF 'tidegatelaw50.CheckpointPasses'. -/
def checkpointPassesCard : Claim7 := { stood := { row := checkpointPassesRow, standIns := [], harness := (true, "b74c78b384d0177a5d3c6c383ce3820b4611657fe4e20efeca939189690f2d00"), looks := true }, kinds := [], alts := [], laidByText := true, laidKinds := [.data, .data, .data, .data, .sentinel, .sentinel, .pinned], laidTests := true, laidLooks := .later }
def CheckpointPassesCardSaid : Prop := Claim7.holds Tryz.pinned (.plain (OpenSpec.ofChange checkpointPassesSpec)) checkpointPassesCard

/-- THE TIED CARD OF 'tidegatelaw50.CheckpointSpares'. -/
def checkpointSparesCard : Claim7 := { stood := { row := checkpointSparesRow, standIns := [], harness := (true, "b74c78b384d0177a5d3c6c383ce3820b4611657fe4e20efeca939189690f2d00"), looks := true }, kinds := [], alts := [], laidByText := true, laidKinds := [.data, .data, .data, .data, .sentinel, .sentinel, .pinned], laidTests := true, laidLooks := .later }
def CheckpointSparesCardSaid : Prop := Claim7.holds Tryz.pinned (.plain (OpenSpec.ofChange checkpointSparesSpec)) checkpointSparesCard

/-- THE TIED CARD OF 'tidegatelaw50.CheckpointSurvives'. -/
def checkpointSurvivesCard : Claim7 := { stood := { row := checkpointSurvivesRow, standIns := [], harness := (true, "b74c78b384d0177a5d3c6c383ce3820b4611657fe4e20efeca939189690f2d00"), looks := true }, kinds := [], alts := [], laidByText := true, laidKinds := [.data, .data, .data, .data, .sentinel, .sentinel, .pinned], laidTests := true, laidLooks := .later }
def CheckpointSurvivesCardSaid : Prop := Claim7.holds Tryz.pinned (.plain (OpenSpec.ofChange checkpointSurvivesSpec)) checkpointSurvivesCard

/-- THE SECOND FORM's CARD OF 'tidegatelaw50.CheckpointLoads'. -/
def checkpointLoadsUptoCard : Claim7 := { stood := { row := checkpointLoadsUptoRow, standIns := [], harness := (true, "b74c78b384d0177a5d3c6c383ce3820b4611657fe4e20efeca939189690f2d00"), looks := true }, kinds := [], alts := [], laidByText := true, laidKinds := [.data, .data, .data, .data, .sentinel, .sentinel, .pinned], laidTests := true, laidLooks := .later }
def CheckpointLoadsUptoCardSaid : Prop := Claim7.holds Tryz.pinned (.plain (OpenSpec.upto checkpointLoadsSpec)) checkpointLoadsUptoCard

/-- THE SECOND FORM's CARD OF 'tidegatelaw50.CheckpointSaves'. -/
def checkpointSavesUptoCard : Claim7 := { stood := { row := checkpointSavesUptoRow, standIns := [], harness := (true, "b74c78b384d0177a5d3c6c383ce3820b4611657fe4e20efeca939189690f2d00"), looks := true }, kinds := [], alts := [], laidByText := true, laidKinds := [.data, .data, .data, .data, .sentinel, .sentinel, .pinned], laidTests := true, laidLooks := .later }
def CheckpointSavesUptoCardSaid : Prop := Claim7.holds Tryz.pinned (.plain (OpenSpec.upto checkpointSavesSpec)) checkpointSavesUptoCard

/-- THE SECOND FORM's CARD OF 'tidegatelaw50.CheckpointNames'. -/
def checkpointNamesUptoCard : Claim7 := { stood := { row := checkpointNamesUptoRow, standIns := [], harness := (true, "b74c78b384d0177a5d3c6c383ce3820b4611657fe4e20efeca939189690f2d00"), looks := true }, kinds := [], alts := [], laidByText := true, laidKinds := [.data, .data, .data, .data, .sentinel, .sentinel, .pinned], laidTests := true, laidLooks := .later }
def CheckpointNamesUptoCardSaid : Prop := Claim7.holds Tryz.pinned (.plain (OpenSpec.upto checkpointNamesSpec)) checkpointNamesUptoCard

/-- THE SECOND FORM's CARD OF 'tidegatelaw50.CheckpointCommits'. -/
def checkpointCommitsUptoCard : Claim7 := { stood := { row := checkpointCommitsUptoRow, standIns := [], harness := (true, "b74c78b384d0177a5d3c6c383ce3820b4611657fe4e20efeca939189690f2d00"), looks := true }, kinds := [], alts := [], laidByText := true, laidKinds := [.data, .data, .data, .data, .sentinel, .sentinel, .pinned], laidTests := true, laidLooks := .later }
def CheckpointCommitsUptoCardSaid : Prop := Claim7.holds Tryz.pinned (.plain (OpenSpec.upto checkpointCommitsSpec)) checkpointCommitsUptoCard

/-- THE SECOND FORM's CARD OF 'tidegatelaw50.CheckpointPasses'. -/
def checkpointPassesUptoCard : Claim7 := { stood := { row := checkpointPassesUptoRow, standIns := [], harness := (true, "b74c78b384d0177a5d3c6c383ce3820b4611657fe4e20efeca939189690f2d00"), looks := true }, kinds := [], alts := [], laidByText := true, laidKinds := [.data, .data, .data, .data, .sentinel, .sentinel, .pinned], laidTests := true, laidLooks := .later }
def CheckpointPassesUptoCardSaid : Prop := Claim7.holds Tryz.pinned (.plain (OpenSpec.upto checkpointPassesSpec)) checkpointPassesUptoCard

/-- THE SECOND FORM's CARD OF 'tidegatelaw50.CheckpointSpares'. -/
def checkpointSparesUptoCard : Claim7 := { stood := { row := checkpointSparesUptoRow, standIns := [], harness := (true, "b74c78b384d0177a5d3c6c383ce3820b4611657fe4e20efeca939189690f2d00"), looks := true }, kinds := [], alts := [], laidByText := true, laidKinds := [.data, .data, .data, .data, .sentinel, .sentinel, .pinned], laidTests := true, laidLooks := .later }
def CheckpointSparesUptoCardSaid : Prop := Claim7.holds Tryz.pinned (.plain (OpenSpec.upto checkpointSparesSpec)) checkpointSparesUptoCard

/-- THE SECOND FORM's CARD OF 'tidegatelaw50.CheckpointSurvives'. -/
def checkpointSurvivesUptoCard : Claim7 := { stood := { row := checkpointSurvivesUptoRow, standIns := [], harness := (true, "b74c78b384d0177a5d3c6c383ce3820b4611657fe4e20efeca939189690f2d00"), looks := true }, kinds := [], alts := [], laidByText := true, laidKinds := [.data, .data, .data, .data, .sentinel, .sentinel, .pinned], laidTests := true, laidLooks := .later }
def CheckpointSurvivesUptoCardSaid : Prop := Claim7.holds Tryz.pinned (.plain (OpenSpec.upto checkpointSurvivesSpec)) checkpointSurvivesUptoCard
end Rows
end Go.Proofs.YtmfoegilknpcnaaGreatDoor
