/-
  DERIVED. GIVEN WITH THE SEED: THE CARDS: each row of YteghceocnldccaaGreatDoorRows.lean that lists a variable, with what it lists TIED to the program's text (the seventh form; the later family's looks); each row that meets fmt, with fmt's text TOLD by the authors' own Lean function (tested against real Go, not proved from fmt's source: count such statements apart). THE CARD IS WHAT COUNTS. Prove the row's statement (the work); the ties are given (YteghceocnldccaaGreatDoorTie.lean); close each card by the builder's one call (the guide's Derived/Test/ToyasCard.lean, 'card_holds'). Laid BY PROGRAM, IN A SANDBOX (cutbox-door.mjs). By AI agents, Wed Nov 11 2026. No macro, syntax, notation, axiom, sorry.
-/
import Derived.Test.YteghceocnldccaaGreatDoorRows
import GoSem.ClaimSeven
namespace Go.Proofs.YteghceocnldccaaGreatDoor
namespace Rows

/-- THE TIED CARD OF 'tidegatelaw29.DeterminizeSubsets'. -/
def determinizeSubsetsCard : Claim7 := { stood := { row := determinizeSubsetsRow, standIns := [], harness := (true, "5c9afa107ffd5666cb9f6d8f40db80684752c7cc1a843fc2b6769f3b95611f70"), looks := false }, kinds := [], alts := [], laidByText := true, laidKinds := [.data, .data, .data], laidTests := true, laidLooks := .later }
def DeterminizeSubsetsCardSaid : Prop := Claim7.holds Tryz.pinned (.plain (OpenSpec.ofChange determinizeSubsetsSpec)) determinizeSubsetsCard

/-- THE TIED CARD OF 'tidegatelaw29.DeterminizeBuilds'. -/
def determinizeBuildsCard : Claim7 := { stood := { row := determinizeBuildsRow, standIns := [], harness := (true, "5c9afa107ffd5666cb9f6d8f40db80684752c7cc1a843fc2b6769f3b95611f70"), looks := false }, kinds := [], alts := [], laidByText := true, laidKinds := [.data, .data, .data], laidTests := true, laidLooks := .later }
def DeterminizeBuildsCardSaid : Prop := Claim7.holds Tryz.pinned (.plain (OpenSpec.ofChange determinizeBuildsSpec)) determinizeBuildsCard

/-- THE TIED CARD OF 'tidegatelaw29.DeterminizeCompletes'. -/
def determinizeCompletesCard : Claim7 := { stood := { row := determinizeCompletesRow, standIns := [], harness := (true, "5c9afa107ffd5666cb9f6d8f40db80684752c7cc1a843fc2b6769f3b95611f70"), looks := false }, kinds := [], alts := [], laidByText := true, laidKinds := [.data, .data, .data], laidTests := true, laidLooks := .later }
def DeterminizeCompletesCardSaid : Prop := Claim7.holds Tryz.pinned (.plain (OpenSpec.ofChange determinizeCompletesSpec)) determinizeCompletesCard

/-- THE TIED CARD OF 'tidegatelaw30.MinimizeBuilds'. -/
def minimizeBuildsCard : Claim7 := { stood := { row := minimizeBuildsRow, standIns := [], harness := (true, "5c9afa107ffd5666cb9f6d8f40db80684752c7cc1a843fc2b6769f3b95611f70"), looks := false }, kinds := [], alts := [], laidByText := true, laidKinds := [.data, .data, .data], laidTests := true, laidLooks := .later }
def MinimizeBuildsCardSaid : Prop := Claim7.holds Tryz.pinned (.plain (OpenSpec.ofChange minimizeBuildsSpec)) minimizeBuildsCard

/-- THE TIED CARD OF 'tidegatelaw30.MinimizeClasses'. -/
def minimizeClassesCard : Claim7 := { stood := { row := minimizeClassesRow, standIns := [], harness := (true, "5c9afa107ffd5666cb9f6d8f40db80684752c7cc1a843fc2b6769f3b95611f70"), looks := false }, kinds := [], alts := [], laidByText := true, laidKinds := [.data, .data, .data], laidTests := true, laidLooks := .later }
def MinimizeClassesCardSaid : Prop := Claim7.holds Tryz.pinned (.plain (OpenSpec.ofChange minimizeClassesSpec)) minimizeClassesCard

/-- THE TIED CARD OF 'tidegatelaw30.MinimizeParts'. -/
def minimizePartsCard : Claim7 := { stood := { row := minimizePartsRow, standIns := [], harness := (true, "5c9afa107ffd5666cb9f6d8f40db80684752c7cc1a843fc2b6769f3b95611f70"), looks := false }, kinds := [], alts := [], laidByText := true, laidKinds := [.data, .data, .data], laidTests := true, laidLooks := .later }
def MinimizePartsCardSaid : Prop := Claim7.holds Tryz.pinned (.plain (OpenSpec.ofChange minimizePartsSpec)) minimizePartsCard

/-- THE TIED CARD OF 'tidegatelaw30.MinimizeRefines'. -/
def minimizeRefinesCard : Claim7 := { stood := { row := minimizeRefinesRow, standIns := [], harness := (true, "5c9afa107ffd5666cb9f6d8f40db80684752c7cc1a843fc2b6769f3b95611f70"), looks := false }, kinds := [], alts := [], laidByText := true, laidKinds := [.data, .data, .data], laidTests := true, laidLooks := .later }
def MinimizeRefinesCardSaid : Prop := Claim7.holds Tryz.pinned (.plain (OpenSpec.ofChange minimizeRefinesSpec)) minimizeRefinesCard

/-- THE TIED CARD OF 'tidegatelaw30.MinimizeNumbers'. -/
def minimizeNumbersCard : Claim7 := { stood := { row := minimizeNumbersRow, standIns := [], harness := (true, "5c9afa107ffd5666cb9f6d8f40db80684752c7cc1a843fc2b6769f3b95611f70"), looks := false }, kinds := [], alts := [], laidByText := true, laidKinds := [.data, .data, .data], laidTests := true, laidLooks := .later }
def MinimizeNumbersCardSaid : Prop := Claim7.holds Tryz.pinned (.plain (OpenSpec.ofChange minimizeNumbersSpec)) minimizeNumbersCard

/-- THE TIED CARD OF 'tidegatelaw30.MinimizeRenumbers'. -/
def minimizeRenumbersCard : Claim7 := { stood := { row := minimizeRenumbersRow, standIns := [], harness := (true, "5c9afa107ffd5666cb9f6d8f40db80684752c7cc1a843fc2b6769f3b95611f70"), looks := false }, kinds := [], alts := [], laidByText := true, laidKinds := [.data, .data, .data], laidTests := true, laidLooks := .later }
def MinimizeRenumbersCardSaid : Prop := Claim7.holds Tryz.pinned (.plain (OpenSpec.ofChange minimizeRenumbersSpec)) minimizeRenumbersCard

/-- THE TIED CARD OF 'tidegatelaw30.MinimizeKeeps'. -/
def minimizeKeepsCard : Claim7 := { stood := { row := minimizeKeepsRow, standIns := [], harness := (true, "5c9afa107ffd5666cb9f6d8f40db80684752c7cc1a843fc2b6769f3b95611f70"), looks := false }, kinds := [], alts := [], laidByText := true, laidKinds := [.data, .data, .data], laidTests := true, laidLooks := .later }
def MinimizeKeepsCardSaid : Prop := Claim7.holds Tryz.pinned (.plain (OpenSpec.ofChange minimizeKeepsSpec)) minimizeKeepsCard

/-- THE SECOND FORM's CARD OF 'tidegatelaw29.DeterminizeSubsets'. -/
def determinizeSubsetsUptoCard : Claim7 := { stood := { row := determinizeSubsetsUptoRow, standIns := [], harness := (true, "5c9afa107ffd5666cb9f6d8f40db80684752c7cc1a843fc2b6769f3b95611f70"), looks := false }, kinds := [], alts := [], laidByText := true, laidKinds := [.data, .data, .data], laidTests := true, laidLooks := .later }
def DeterminizeSubsetsUptoCardSaid : Prop := Claim7.holds Tryz.pinned (.plain (OpenSpec.upto determinizeSubsetsSpec)) determinizeSubsetsUptoCard

/-- THE SECOND FORM's CARD OF 'tidegatelaw29.DeterminizeBuilds'. -/
def determinizeBuildsUptoCard : Claim7 := { stood := { row := determinizeBuildsUptoRow, standIns := [], harness := (true, "5c9afa107ffd5666cb9f6d8f40db80684752c7cc1a843fc2b6769f3b95611f70"), looks := false }, kinds := [], alts := [], laidByText := true, laidKinds := [.data, .data, .data], laidTests := true, laidLooks := .later }
def DeterminizeBuildsUptoCardSaid : Prop := Claim7.holds Tryz.pinned (.plain (OpenSpec.upto determinizeBuildsSpec)) determinizeBuildsUptoCard

/-- THE SECOND FORM's CARD OF 'tidegatelaw29.DeterminizeCompletes'. -/
def determinizeCompletesUptoCard : Claim7 := { stood := { row := determinizeCompletesUptoRow, standIns := [], harness := (true, "5c9afa107ffd5666cb9f6d8f40db80684752c7cc1a843fc2b6769f3b95611f70"), looks := false }, kinds := [], alts := [], laidByText := true, laidKinds := [.data, .data, .data], laidTests := true, laidLooks := .later }
def DeterminizeCompletesUptoCardSaid : Prop := Claim7.holds Tryz.pinned (.plain (OpenSpec.upto determinizeCompletesSpec)) determinizeCompletesUptoCard

/-- THE SECOND FORM's CARD OF 'tidegatelaw30.MinimizeBuilds'. -/
def minimizeBuildsUptoCard : Claim7 := { stood := { row := minimizeBuildsUptoRow, standIns := [], harness := (true, "5c9afa107ffd5666cb9f6d8f40db80684752c7cc1a843fc2b6769f3b95611f70"), looks := false }, kinds := [], alts := [], laidByText := true, laidKinds := [.data, .data, .data], laidTests := true, laidLooks := .later }
def MinimizeBuildsUptoCardSaid : Prop := Claim7.holds Tryz.pinned (.plain (OpenSpec.upto minimizeBuildsSpec)) minimizeBuildsUptoCard

/-- THE SECOND FORM's CARD OF 'tidegatelaw30.MinimizeClasses'. -/
def minimizeClassesUptoCard : Claim7 := { stood := { row := minimizeClassesUptoRow, standIns := [], harness := (true, "5c9afa107ffd5666cb9f6d8f40db80684752c7cc1a843fc2b6769f3b95611f70"), looks := false }, kinds := [], alts := [], laidByText := true, laidKinds := [.data, .data, .data], laidTests := true, laidLooks := .later }
def MinimizeClassesUptoCardSaid : Prop := Claim7.holds Tryz.pinned (.plain (OpenSpec.upto minimizeClassesSpec)) minimizeClassesUptoCard

/-- THE SECOND FORM's CARD OF 'tidegatelaw30.MinimizeParts'. -/
def minimizePartsUptoCard : Claim7 := { stood := { row := minimizePartsUptoRow, standIns := [], harness := (true, "5c9afa107ffd5666cb9f6d8f40db80684752c7cc1a843fc2b6769f3b95611f70"), looks := false }, kinds := [], alts := [], laidByText := true, laidKinds := [.data, .data, .data], laidTests := true, laidLooks := .later }
def MinimizePartsUptoCardSaid : Prop := Claim7.holds Tryz.pinned (.plain (OpenSpec.upto minimizePartsSpec)) minimizePartsUptoCard

/-- THE SECOND FORM's CARD OF 'tidegatelaw30.MinimizeRefines'. -/
def minimizeRefinesUptoCard : Claim7 := { stood := { row := minimizeRefinesUptoRow, standIns := [], harness := (true, "5c9afa107ffd5666cb9f6d8f40db80684752c7cc1a843fc2b6769f3b95611f70"), looks := false }, kinds := [], alts := [], laidByText := true, laidKinds := [.data, .data, .data], laidTests := true, laidLooks := .later }
def MinimizeRefinesUptoCardSaid : Prop := Claim7.holds Tryz.pinned (.plain (OpenSpec.upto minimizeRefinesSpec)) minimizeRefinesUptoCard

/-- THE SECOND FORM's CARD OF 'tidegatelaw30.MinimizeNumbers'. -/
def minimizeNumbersUptoCard : Claim7 := { stood := { row := minimizeNumbersUptoRow, standIns := [], harness := (true, "5c9afa107ffd5666cb9f6d8f40db80684752c7cc1a843fc2b6769f3b95611f70"), looks := false }, kinds := [], alts := [], laidByText := true, laidKinds := [.data, .data, .data], laidTests := true, laidLooks := .later }
def MinimizeNumbersUptoCardSaid : Prop := Claim7.holds Tryz.pinned (.plain (OpenSpec.upto minimizeNumbersSpec)) minimizeNumbersUptoCard

/-- THE SECOND FORM's CARD OF 'tidegatelaw30.MinimizeRenumbers'. -/
def minimizeRenumbersUptoCard : Claim7 := { stood := { row := minimizeRenumbersUptoRow, standIns := [], harness := (true, "5c9afa107ffd5666cb9f6d8f40db80684752c7cc1a843fc2b6769f3b95611f70"), looks := false }, kinds := [], alts := [], laidByText := true, laidKinds := [.data, .data, .data], laidTests := true, laidLooks := .later }
def MinimizeRenumbersUptoCardSaid : Prop := Claim7.holds Tryz.pinned (.plain (OpenSpec.upto minimizeRenumbersSpec)) minimizeRenumbersUptoCard

/-- THE SECOND FORM's CARD OF 'tidegatelaw30.MinimizeKeeps'. -/
def minimizeKeepsUptoCard : Claim7 := { stood := { row := minimizeKeepsUptoRow, standIns := [], harness := (true, "5c9afa107ffd5666cb9f6d8f40db80684752c7cc1a843fc2b6769f3b95611f70"), looks := false }, kinds := [], alts := [], laidByText := true, laidKinds := [.data, .data, .data], laidTests := true, laidLooks := .later }
def MinimizeKeepsUptoCardSaid : Prop := Claim7.holds Tryz.pinned (.plain (OpenSpec.upto minimizeKeepsSpec)) minimizeKeepsUptoCard
end Rows
end Go.Proofs.YteghceocnldccaaGreatDoor
