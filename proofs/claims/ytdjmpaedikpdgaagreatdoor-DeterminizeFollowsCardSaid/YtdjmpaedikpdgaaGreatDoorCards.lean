/-
  DERIVED. GIVEN WITH THE SEED: THE CARDS: each row of YtdjmpaedikpdgaaGreatDoorRows.lean that lists a variable, with what it lists TIED to the program's text (the seventh form; the later family's looks); each row that meets fmt, with fmt's text TOLD by the authors' own Lean function (tested against real Go, not proved from fmt's source: count such statements apart). THE CARD IS WHAT COUNTS. Prove the row's statement (the work); the ties are given (YtdjmpaedikpdgaaGreatDoorTie.lean); close each card by the builder's one call (the guide's Derived/Test/ToyasCard.lean, 'card_holds'). Laid BY PROGRAM, IN A SANDBOX (cutbox-door.mjs). By AI agents, Wed Nov 11 2026. No macro, syntax, notation, axiom, sorry.
-/
import Derived.Test.YtdjmpaedikpdgaaGreatDoorRows
import GoSem.ClaimSeven
namespace Go.Proofs.YtdjmpaedikpdgaaGreatDoor
namespace Rows

/-- THE TIED CARD OF 'tidegatelaw29.DeterminizeSubsets'. -/
def determinizeSubsetsCard : Claim7 := { stood := { row := determinizeSubsetsRow, standIns := [], harness := (true, "3d80c6eb74f419bb7b99eb8d34190aa4840932a3dcfe0214d804866d69e2435a"), looks := false }, kinds := [], alts := [], laidByText := true, laidKinds := [.data, .data, .data], laidTests := true, laidLooks := .later }
def DeterminizeSubsetsCardSaid : Prop := Claim7.holds Tryz.pinned (.plain (OpenSpec.ofChange determinizeSubsetsSpec)) determinizeSubsetsCard

/-- THE TIED CARD OF 'tidegatelaw29.DeterminizeBuilds'. -/
def determinizeBuildsCard : Claim7 := { stood := { row := determinizeBuildsRow, standIns := [], harness := (true, "3d80c6eb74f419bb7b99eb8d34190aa4840932a3dcfe0214d804866d69e2435a"), looks := false }, kinds := [], alts := [], laidByText := true, laidKinds := [.data, .data, .data], laidTests := true, laidLooks := .later }
def DeterminizeBuildsCardSaid : Prop := Claim7.holds Tryz.pinned (.plain (OpenSpec.ofChange determinizeBuildsSpec)) determinizeBuildsCard

/-- THE TIED CARD OF 'tidegatelaw29.DeterminizeCompletes'. -/
def determinizeCompletesCard : Claim7 := { stood := { row := determinizeCompletesRow, standIns := [], harness := (true, "3d80c6eb74f419bb7b99eb8d34190aa4840932a3dcfe0214d804866d69e2435a"), looks := false }, kinds := [], alts := [], laidByText := true, laidKinds := [.data, .data, .data], laidTests := true, laidLooks := .later }
def DeterminizeCompletesCardSaid : Prop := Claim7.holds Tryz.pinned (.plain (OpenSpec.ofChange determinizeCompletesSpec)) determinizeCompletesCard

/-- THE TIED CARD OF 'tidegatelaw29.DeterminizeTurns'. -/
def determinizeTurnsCard : Claim7 := { stood := { row := determinizeTurnsRow, standIns := [], harness := (true, "3d80c6eb74f419bb7b99eb8d34190aa4840932a3dcfe0214d804866d69e2435a"), looks := false }, kinds := [], alts := [], laidByText := true, laidKinds := [.data, .data, .data], laidTests := true, laidLooks := .later }
def DeterminizeTurnsCardSaid : Prop := Claim7.holds Tryz.pinned (.plain (OpenSpec.ofChange determinizeTurnsSpec)) determinizeTurnsCard

/-- THE TIED CARD OF 'tidegatelaw29.DeterminizeKeeps'. -/
def determinizeKeepsCard : Claim7 := { stood := { row := determinizeKeepsRow, standIns := [], harness := (true, "3d80c6eb74f419bb7b99eb8d34190aa4840932a3dcfe0214d804866d69e2435a"), looks := false }, kinds := [], alts := [], laidByText := true, laidKinds := [.data, .data, .data], laidTests := true, laidLooks := .later }
def DeterminizeKeepsCardSaid : Prop := Claim7.holds Tryz.pinned (.plain (OpenSpec.ofChange determinizeKeepsSpec)) determinizeKeepsCard

/-- THE TIED CARD OF 'tidegatelaw29.DeterminizeSteps'. -/
def determinizeStepsCard : Claim7 := { stood := { row := determinizeStepsRow, standIns := [], harness := (true, "3d80c6eb74f419bb7b99eb8d34190aa4840932a3dcfe0214d804866d69e2435a"), looks := false }, kinds := [], alts := [], laidByText := true, laidKinds := [.data, .data, .data], laidTests := true, laidLooks := .later }
def DeterminizeStepsCardSaid : Prop := Claim7.holds Tryz.pinned (.plain (OpenSpec.ofChange determinizeStepsSpec)) determinizeStepsCard

/-- THE TIED CARD OF 'tidegatelaw29.DeterminizeFollows'. -/
def determinizeFollowsCard : Claim7 := { stood := { row := determinizeFollowsRow, standIns := [], harness := (true, "3d80c6eb74f419bb7b99eb8d34190aa4840932a3dcfe0214d804866d69e2435a"), looks := false }, kinds := [], alts := [], laidByText := true, laidKinds := [.data, .data, .data], laidTests := true, laidLooks := .later }
def DeterminizeFollowsCardSaid : Prop := Claim7.holds Tryz.pinned (.plain (OpenSpec.ofChange determinizeFollowsSpec)) determinizeFollowsCard

/-- THE SECOND FORM's CARD OF 'tidegatelaw29.DeterminizeSubsets'. -/
def determinizeSubsetsUptoCard : Claim7 := { stood := { row := determinizeSubsetsUptoRow, standIns := [], harness := (true, "3d80c6eb74f419bb7b99eb8d34190aa4840932a3dcfe0214d804866d69e2435a"), looks := false }, kinds := [], alts := [], laidByText := true, laidKinds := [.data, .data, .data], laidTests := true, laidLooks := .later }
def DeterminizeSubsetsUptoCardSaid : Prop := Claim7.holds Tryz.pinned (.plain (OpenSpec.upto determinizeSubsetsSpec)) determinizeSubsetsUptoCard

/-- THE SECOND FORM's CARD OF 'tidegatelaw29.DeterminizeBuilds'. -/
def determinizeBuildsUptoCard : Claim7 := { stood := { row := determinizeBuildsUptoRow, standIns := [], harness := (true, "3d80c6eb74f419bb7b99eb8d34190aa4840932a3dcfe0214d804866d69e2435a"), looks := false }, kinds := [], alts := [], laidByText := true, laidKinds := [.data, .data, .data], laidTests := true, laidLooks := .later }
def DeterminizeBuildsUptoCardSaid : Prop := Claim7.holds Tryz.pinned (.plain (OpenSpec.upto determinizeBuildsSpec)) determinizeBuildsUptoCard

/-- THE SECOND FORM's CARD OF 'tidegatelaw29.DeterminizeCompletes'. -/
def determinizeCompletesUptoCard : Claim7 := { stood := { row := determinizeCompletesUptoRow, standIns := [], harness := (true, "3d80c6eb74f419bb7b99eb8d34190aa4840932a3dcfe0214d804866d69e2435a"), looks := false }, kinds := [], alts := [], laidByText := true, laidKinds := [.data, .data, .data], laidTests := true, laidLooks := .later }
def DeterminizeCompletesUptoCardSaid : Prop := Claim7.holds Tryz.pinned (.plain (OpenSpec.upto determinizeCompletesSpec)) determinizeCompletesUptoCard

/-- THE SECOND FORM's CARD OF 'tidegatelaw29.DeterminizeTurns'. -/
def determinizeTurnsUptoCard : Claim7 := { stood := { row := determinizeTurnsUptoRow, standIns := [], harness := (true, "3d80c6eb74f419bb7b99eb8d34190aa4840932a3dcfe0214d804866d69e2435a"), looks := false }, kinds := [], alts := [], laidByText := true, laidKinds := [.data, .data, .data], laidTests := true, laidLooks := .later }
def DeterminizeTurnsUptoCardSaid : Prop := Claim7.holds Tryz.pinned (.plain (OpenSpec.upto determinizeTurnsSpec)) determinizeTurnsUptoCard

/-- THE SECOND FORM's CARD OF 'tidegatelaw29.DeterminizeKeeps'. -/
def determinizeKeepsUptoCard : Claim7 := { stood := { row := determinizeKeepsUptoRow, standIns := [], harness := (true, "3d80c6eb74f419bb7b99eb8d34190aa4840932a3dcfe0214d804866d69e2435a"), looks := false }, kinds := [], alts := [], laidByText := true, laidKinds := [.data, .data, .data], laidTests := true, laidLooks := .later }
def DeterminizeKeepsUptoCardSaid : Prop := Claim7.holds Tryz.pinned (.plain (OpenSpec.upto determinizeKeepsSpec)) determinizeKeepsUptoCard

/-- THE SECOND FORM's CARD OF 'tidegatelaw29.DeterminizeSteps'. -/
def determinizeStepsUptoCard : Claim7 := { stood := { row := determinizeStepsUptoRow, standIns := [], harness := (true, "3d80c6eb74f419bb7b99eb8d34190aa4840932a3dcfe0214d804866d69e2435a"), looks := false }, kinds := [], alts := [], laidByText := true, laidKinds := [.data, .data, .data], laidTests := true, laidLooks := .later }
def DeterminizeStepsUptoCardSaid : Prop := Claim7.holds Tryz.pinned (.plain (OpenSpec.upto determinizeStepsSpec)) determinizeStepsUptoCard

/-- THE SECOND FORM's CARD OF 'tidegatelaw29.DeterminizeFollows'. -/
def determinizeFollowsUptoCard : Claim7 := { stood := { row := determinizeFollowsUptoRow, standIns := [], harness := (true, "3d80c6eb74f419bb7b99eb8d34190aa4840932a3dcfe0214d804866d69e2435a"), looks := false }, kinds := [], alts := [], laidByText := true, laidKinds := [.data, .data, .data], laidTests := true, laidLooks := .later }
def DeterminizeFollowsUptoCardSaid : Prop := Claim7.holds Tryz.pinned (.plain (OpenSpec.upto determinizeFollowsSpec)) determinizeFollowsUptoCard
end Rows
end Go.Proofs.YtdjmpaedikpdgaaGreatDoor
